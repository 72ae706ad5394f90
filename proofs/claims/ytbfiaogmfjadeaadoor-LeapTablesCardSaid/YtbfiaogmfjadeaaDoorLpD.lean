/- Layer 16: the laws as functions. The conditions stand in the specifications; the rows meet them. -/
import Derived.Test.YtbfiaogmfjadeaaDoorLpC
import Derived.Test.YtbfiaogmfjadeaaDoorLpB
set_option linter.unusedSimpArgs false
set_option linter.unusedVariables false
set_option linter.unnecessarySimpa false
set_option linter.unusedSectionVars false
set_option maxRecDepth 100000
set_option linter.unusedSimpArgs false
set_option linter.unusedVariables false
namespace Go.Proofs.YtbfiaogmfjadeaaDoor
open Go.Rx
abbrev lwG : List (Nat × Rx.Spec) := [kpE, (11, mkS), (13, farS), (14, alS), (12, rrS), (15, lkS), (17, rlbS), (20, tdS), (21, newS), (16, lbS), (18, offS), (19, noS), (22, ofS), (27, byS), (28, byS), (29, spsS), (30, spsS)]
theorem lwG_ok : GammaOK P lwG := .cons keep_ok (.cons mk_ok (.cons far_ok (.cons al_ok (.cons rr_ok (.cons lk_ok (.cons rlb_ok (.cons td_ok (.cons new_ok (.cons lb_ok (.cons off_ok (.cons no_ok (.cons of_ok (.cons by_ok (.cons refBy_ok (.cons sps_ok (.cons rsps_ok (.nil P)))))))))))))))))
theorem eqL_self (l : Lab) : Lab.eqB l l = true := by simp [Lab.eqB]
def lwByS : Rx.Spec := fun a b => match a, b with
  | [v, .int .i64 t, .agg [.int .i64 lo, .int .i64 hi, .bool k]], [] => match Nte.of v with
    | some n => .leaf ⟨.bool true, [], []⟩
    | none => .fail
  | _, _ => .fail
theorem lwBy_ok : SpecOK P 9 lwByS := by
  refine specOK_fast lwG_ok hm (Λ := loopsOf []) Tryd.func9 (by kernel_rfl) (LoopsOK.nil (by kernel_rfl)) ?_
  intro args bs r h
  unfold lwByS at h
  split at h
  · split at h
    · rename_i v t lo hi k _ n hn
      rw [Nte.of_eq hn]
      rw [denLf] at h; cases h
      rw [show (fFn P (specsOf lwG) (loopsOf []) Tryd.f9 [n.v, .int .i64 t, .agg [.int .i64 lo, .int .i64 hi, .bool k]] []).denN = Tree.denN (Tree.ite (farB t) (Tree.leaf { v := V.bool true, upd := [], new := [] }) (Tree.ite (farB n.1) (Tree.leaf { v := V.bool true, upd := [], new := [] }) (Tree.ite (byB n t) (Tree.ite (byB n t) (Tree.ite (spsB n lo hi k) (Tree.ite (spsB n lo hi k) (Tree.ite (Lab.eqB (byL n t) (byL n t)) (Tree.ite (Lab.eqB (byL n (lo / 1000000000)) (byL n (lo / 1000000000))) (Tree.ite (Lab.eqB (byL n (hi / 1000000000)) (byL n (hi / 1000000000))) (Tree.leaf { v := V.bool true, upd := [], new := [] }) (Tree.leaf { v := V.fls, upd := [], new := [] })) (Tree.leaf { v := V.fls, upd := [], new := [] })) (Tree.leaf { v := V.fls, upd := [], new := [] })) (Tree.ite (Lab.eqB (byL n t) (byL n t)) (Tree.ite (Lab.eqB (byL n (lo / 1000000000)) Lab.zero) (Tree.ite (Lab.eqB (byL n (hi / 1000000000)) Lab.zero) (Tree.leaf { v := V.bool false, upd := [], new := [] }) (Tree.leaf { v := V.fls, upd := [], new := [] })) (Tree.leaf { v := V.fls, upd := [], new := [] })) (Tree.leaf { v := V.fls, upd := [], new := [] }))) (Tree.ite (spsB n lo hi k) (Tree.ite (Lab.eqB (byL n t) (byL n t)) (Tree.ite (Lab.eqB Lab.zero (byL n (lo / 1000000000))) (Tree.ite (Lab.eqB Lab.zero (byL n (hi / 1000000000))) (Tree.leaf { v := V.bool false, upd := [], new := [] }) (Tree.leaf { v := V.fls, upd := [], new := [] })) (Tree.leaf { v := V.fls, upd := [], new := [] })) (Tree.leaf { v := V.fls, upd := [], new := [] })) (Tree.ite (Lab.eqB (byL n t) (byL n t)) (Tree.leaf { v := V.bool true, upd := [], new := [] }) (Tree.leaf { v := V.fls, upd := [], new := [] })))) (Tree.ite (spsB n lo hi k) (Tree.ite (spsB n lo hi k) (Tree.ite (Lab.eqB (byL n t) (byL n t)) (Tree.leaf { v := V.fls, upd := [], new := [] }) (Tree.leaf { v := V.fls, upd := [], new := [] })) (Tree.ite (Lab.eqB (byL n t) (byL n t)) (Tree.leaf { v := V.fls, upd := [], new := [] }) (Tree.leaf { v := V.fls, upd := [], new := [] }))) (Tree.ite (spsB n lo hi k) (Tree.ite (Lab.eqB (byL n t) (byL n t)) (Tree.leaf { v := V.fls, upd := [], new := [] }) (Tree.leaf { v := V.fls, upd := [], new := [] })) (Tree.ite (Lab.eqB (byL n t) (byL n t)) (Tree.leaf { v := V.fls, upd := [], new := [] }) (Tree.leaf { v := V.fls, upd := [], new := [] }))))) (Tree.ite (byB n t) (Tree.ite (spsB n lo hi k) (Tree.ite (spsB n lo hi k) (Tree.ite (Lab.eqB (byL n t) (byL n t)) (Tree.leaf { v := V.fls, upd := [], new := [] }) (Tree.leaf { v := V.fls, upd := [], new := [] })) (Tree.ite (Lab.eqB (byL n t) (byL n t)) (Tree.leaf { v := V.fls, upd := [], new := [] }) (Tree.leaf { v := V.fls, upd := [], new := [] }))) (Tree.ite (spsB n lo hi k) (Tree.ite (Lab.eqB (byL n t) (byL n t)) (Tree.leaf { v := V.fls, upd := [], new := [] }) (Tree.leaf { v := V.fls, upd := [], new := [] })) (Tree.ite (Lab.eqB (byL n t) (byL n t)) (Tree.leaf { v := V.fls, upd := [], new := [] }) (Tree.leaf { v := V.fls, upd := [], new := [] })))) (Tree.ite (spsB n lo hi k) (Tree.ite (spsB n lo hi k) (Tree.ite (Lab.eqB (byL n t) (byL n t)) (Tree.ite (Lab.eqB (byL n (lo / 1000000000)) (byL n (lo / 1000000000))) (Tree.ite (Lab.eqB (byL n (hi / 1000000000)) (byL n (hi / 1000000000))) (Tree.leaf { v := V.bool true, upd := [], new := [] }) (Tree.leaf { v := V.fls, upd := [], new := [] })) (Tree.leaf { v := V.fls, upd := [], new := [] })) (Tree.leaf { v := V.fls, upd := [], new := [] })) (Tree.ite (Lab.eqB (byL n t) (byL n t)) (Tree.ite (Lab.eqB (byL n (lo / 1000000000)) Lab.zero) (Tree.ite (Lab.eqB (byL n (hi / 1000000000)) Lab.zero) (Tree.leaf { v := V.bool false, upd := [], new := [] }) (Tree.leaf { v := V.fls, upd := [], new := [] })) (Tree.leaf { v := V.fls, upd := [], new := [] })) (Tree.leaf { v := V.fls, upd := [], new := [] }))) (Tree.ite (spsB n lo hi k) (Tree.ite (Lab.eqB (byL n t) (byL n t)) (Tree.ite (Lab.eqB Lab.zero (byL n (lo / 1000000000))) (Tree.ite (Lab.eqB Lab.zero (byL n (hi / 1000000000))) (Tree.leaf { v := V.bool false, upd := [], new := [] }) (Tree.leaf { v := V.fls, upd := [], new := [] })) (Tree.leaf { v := V.fls, upd := [], new := [] })) (Tree.leaf { v := V.fls, upd := [], new := [] })) (Tree.ite (Lab.eqB (byL n t) (byL n t)) (Tree.leaf { v := V.bool true, upd := [], new := [] }) (Tree.leaf { v := V.fls, upd := [], new := [] })))))))) from by kernel_rfl]
      simp only [denN_ite, denN_leaf, denN_fail, eqL_self]
      generalize farB t = x1
      generalize farB n.1 = x2
      generalize byB n t = x3
      generalize spsB n lo hi k = x4
      cases x1 <;> cases x2 <;> cases x3 <;> cases x4 <;> rfl
    · simp [den_fail] at h
  · simp [den_fail] at h
def lwNoneS : Rx.Spec := fun a b => match a, b with
  | [.int .i64 f, .int .i64 t], [] => .need (decide (f ≤ 9223372036854775807) && decide (t ≤ 9223372036854775807)) (.leaf ⟨.bool true, [], []⟩)
  | _, _ => .fail
theorem lwNone_ok : SpecOK P 5 lwNoneS := by
  refine specOK_fast lwG_ok hm (Λ := loopsOf []) Tryd.func5 (by kernel_rfl) (LoopsOK.nil (by kernel_rfl)) ?_
  intro args bs r h
  unfold lwNoneS at h
  split at h
  · rename_i f t
    rw [den_need, denLf] at h
    obtain ⟨hb, h⟩ := h
    cases h
    rw [show (fFn P (specsOf lwG) (loopsOf []) Tryd.f5 [.int .i64 f, .int .i64 t] []).denN = Tree.denN (Tree.ite (goodT f []) (Tree.ite (farB t) (Tree.leaf { v := V.bool true, upd := [], new := [] }) (Tree.ite (decide (t < 0)) (Tree.leaf { v := V.bool true, upd := [], new := [] }) (Tree.ite (goodT f []) (Tree.ite (decide (t ≤ 9000000000000000000)) (Tree.ite (labB f [] t) (Tree.ite (decide (IntKind.i64.wrap (t - f) ≤ 9223372036854775807)) (Tree.ite (ofB (IntKind.i64.wrap (t - f))) (Tree.ite (goodT f []) (Tree.ite (decide (t ≤ 9000000000000000000)) (Tree.ite (labB f [] t) (Tree.ite (goodT f []) (Tree.ite (f == f) (Tree.ite (dYear ((t - f) / 86400) == dYear (IntKind.i64.wrap (t - f) / 86400) && (dMonth ((t - f) / 86400) == dMonth (IntKind.i64.wrap (t - f) / 86400) && (dDay ((t - f) / 86400) == dDay (IntKind.i64.wrap (t - f) / 86400) && ((t - f) % 86400 / 3600 == IntKind.i64.wrap (t - f) % 86400 / 3600 && ((t - f) % 3600 / 60 == IntKind.i64.wrap (t - f) % 3600 / 60 && ((t - f) % 60 == IntKind.i64.wrap (t - f) % 60 && true)))))) (Tree.leaf { v := V.bool true, upd := [], new := [] }) (Tree.leaf { v := V.fls, upd := [], new := [] })) (Tree.leaf { v := V.fls, upd := [], new := [] })) Tree.fail) (Tree.ite (goodT f []) (Tree.ite (f == f) (Tree.ite (dYear ((t - f) / 86400) == dYear (IntKind.i64.wrap (t - f) / 86400) && (dMonth ((t - f) / 86400) == dMonth (IntKind.i64.wrap (t - f) / 86400) && (dDay ((t - f) / 86400) == dDay (IntKind.i64.wrap (t - f) / 86400) && ((t - f) % 86400 / 3600 == IntKind.i64.wrap (t - f) % 86400 / 3600 && ((t - f) % 3600 / 60 == IntKind.i64.wrap (t - f) % 3600 / 60 && ((t - f) % 60 == IntKind.i64.wrap (t - f) % 60 && true)))))) (Tree.leaf { v := V.bool false, upd := [], new := [] }) (Tree.leaf { v := V.fls, upd := [], new := [] })) (Tree.leaf { v := V.fls, upd := [], new := [] })) Tree.fail)) Tree.fail) Tree.fail) (Tree.ite (goodT f []) (Tree.ite (decide (t ≤ 9000000000000000000)) (Tree.ite (labB f [] t) (Tree.ite (goodT f []) (Tree.ite (f == f) (Tree.ite (dYear ((t - f) / 86400) == 0 && (dMonth ((t - f) / 86400) == 0 && (dDay ((t - f) / 86400) == 0 && ((t - f) % 86400 / 3600 == 0 && ((t - f) % 3600 / 60 == 0 && ((t - f) % 60 == 0 && true)))))) (Tree.leaf { v := V.fls, upd := [], new := [] }) (Tree.leaf { v := V.fls, upd := [], new := [] })) (Tree.leaf { v := V.fls, upd := [], new := [] })) Tree.fail) (Tree.ite (goodT f []) (Tree.ite (f == f) (Tree.ite (dYear ((t - f) / 86400) == 0 && (dMonth ((t - f) / 86400) == 0 && (dDay ((t - f) / 86400) == 0 && ((t - f) % 86400 / 3600 == 0 && ((t - f) % 3600 / 60 == 0 && ((t - f) % 60 == 0 && true)))))) (Tree.leaf { v := V.fls, upd := [], new := [] }) (Tree.leaf { v := V.fls, upd := [], new := [] })) (Tree.leaf { v := V.fls, upd := [], new := [] })) Tree.fail)) Tree.fail) Tree.fail)) Tree.fail) (Tree.ite (decide (IntKind.i64.wrap (t - f) ≤ 9223372036854775807)) (Tree.ite (ofB (IntKind.i64.wrap (t - f))) (Tree.ite (goodT f []) (Tree.ite (decide (t ≤ 9000000000000000000)) (Tree.ite (labB f [] t) (Tree.ite (goodT f []) (Tree.ite (f == f) (Tree.ite (0 == dYear (IntKind.i64.wrap (t - f) / 86400) && (0 == dMonth (IntKind.i64.wrap (t - f) / 86400) && (0 == dDay (IntKind.i64.wrap (t - f) / 86400) && (0 == IntKind.i64.wrap (t - f) % 86400 / 3600 && (0 == IntKind.i64.wrap (t - f) % 3600 / 60 && (0 == IntKind.i64.wrap (t - f) % 60 && true)))))) (Tree.leaf { v := V.fls, upd := [], new := [] }) (Tree.leaf { v := V.fls, upd := [], new := [] })) (Tree.leaf { v := V.fls, upd := [], new := [] })) Tree.fail) (Tree.ite (goodT f []) (Tree.ite (f == f) (Tree.ite (0 == dYear (IntKind.i64.wrap (t - f) / 86400) && (0 == dMonth (IntKind.i64.wrap (t - f) / 86400) && (0 == dDay (IntKind.i64.wrap (t - f) / 86400) && (0 == IntKind.i64.wrap (t - f) % 86400 / 3600 && (0 == IntKind.i64.wrap (t - f) % 3600 / 60 && (0 == IntKind.i64.wrap (t - f) % 60 && true)))))) (Tree.leaf { v := V.fls, upd := [], new := [] }) (Tree.leaf { v := V.fls, upd := [], new := [] })) (Tree.leaf { v := V.fls, upd := [], new := [] })) Tree.fail)) Tree.fail) Tree.fail) (Tree.ite (goodT f []) (Tree.ite (decide (t ≤ 9000000000000000000)) (Tree.ite (labB f [] t) (Tree.ite (goodT f []) (Tree.ite (f == f) (Tree.leaf { v := V.bool false, upd := [], new := [] }) (Tree.leaf { v := V.fls, upd := [], new := [] })) Tree.fail) (Tree.ite (goodT f []) (Tree.ite (f == f) (Tree.leaf { v := V.bool true, upd := [], new := [] }) (Tree.leaf { v := V.fls, upd := [], new := [] })) Tree.fail)) Tree.fail) Tree.fail)) Tree.fail)) Tree.fail) Tree.fail))) (Tree.ite (decide (f < 0)) (Tree.leaf { v := V.tru, upd := [], new := [] }) (Tree.leaf { v := V.bool (decide (f > 30000)), upd := [], new := [] }))) from by kernel_rfl]
    simp only [denN_ite, denN_leaf, denN_fail]
    cases hg : goodT f [] with
    | false =>
      rw [if_neg (by decide)]
      by_cases h1 : f < 0
      · rw [decide_eq_true h1]; rfl
      · have h2 : f > 30000 := by
          by_cases h2 : f > 30000
          · exact h2
          · have := goodT_iff.2 (show 0 ≤ f ∧ f ≤ 30000 ∧ ([] : List Lp).length ≤ 64 ∧ pre none ([] : List Lp) = ([] : List Lp).length from ⟨by omega, by omega, by simp, rfl⟩)
            rw [hg] at this; cases this
        rw [decide_eq_false h1, decide_eq_true h2]; rfl
    | true =>
      obtain ⟨g1, g2, g3, g4⟩ := goodT_iff.1 hg
      rw [if_pos rfl]
      cases hf : farB t with
      | true => rfl
      | false =>
        simp only [farB, Bool.or_eq_false_iff, decide_eq_false_iff_not] at hf
        by_cases h0 : t < 0
        · rw [decide_eq_true h0]; rfl
        · rw [wrap64_id (n := t - f) (by omega) (by omega), decide_eq_false h0, decide_eq_true (show t ≤ 9000000000000000000 by omega), decide_eq_true (show t - f ≤ 9223372036854775807 by omega)]
          have e : labB f [] t = ofB (t - f) := by unfold labB; rw [decide_eq_true (by omega)]; rfl
          rw [e]
          simp only [beq_self_eq_true, Bool.and_self]
          cases ofB (t - f) <;> rfl
  · simp [den_fail] at h
def lwTabS : Rx.Spec := fun a b => match a, b with
  | [.agg [.int .i64 f, .sl 0 0 0 2 n none], .int .i64 t], [.rows [.int .i64, .int .i64] rs] => .need (decide (n = rs.length) && decide (n * 16 ≤ 140737488351232)) (.leaf ⟨.bool true, [none], []⟩)
  | _, _ => .fail
theorem okTA_lp {n : Nat} {f : Int} {rs : List (List V)} (hg : goodT f (lps rs) = true) (h1 : n = rs.length) (h0 : n ≠ 0) : okTA n (n + 1) n f (lpRows (lps rs)) (offsF f (lps rs)) (stF f (lps rs)) = true := by
  have := okTA_of (f := f) (rs := lpRows (lps rs)) (by rw [lps_rows]; exact hg) (by rw [lpRows_len, lps_len]; omega)
  rw [lps_rows, lpRows_len, lps_len, ← h1] at this
  exact this
theorem lwTab_ok : SpecOK P 3 lwTabS := by
  refine specOK_fast lwG_ok hm (Λ := loopsOf []) Tryd.func3 (by kernel_rfl) (LoopsOK.nil (by kernel_rfl)) ?_
  intro args bs r h
  unfold lwTabS at h
  split at h
  · rename_i f n t rs
    rw [den_need, denLf] at h
    simp only [Bool.and_eq_true, decide_eq_true_eq] at h
    obtain ⟨⟨h1, h2⟩, h⟩ := h
    cases h
    rw [show (fFn P (specsOf lwG) (loopsOf []) Tryd.f3 [.agg [.int .i64 f, .sl 0 0 0 2 n none], .int .i64 t] [.rows lpK rs]).denN = Tree.denN (Tree.ite (decide (n = rs.length) && decide (n * 16 ≤ 140737488351232)) (Tree.ite (goodT f (lps rs)) (Tree.ite (decide (n = 0)) (Tree.ite (decide (n = rs.length)) (Tree.ite (!true == goodT f (lps rs)) (Tree.leaf { v := V.fls, upd := [none], new := [] }) (Tree.ite (farB t) (Tree.leaf { v := V.bool true, upd := [none], new := [] }) (Tree.ite (decide (n = rs.length) && goodT f (lps rs)) (Tree.ite (goodT f []) (Tree.ite (decide (t ≤ 9000000000000000000)) (Tree.ite (labB f [] t) (Tree.ite (decide (n = rs.length) && goodT f (lps rs) && decide (t ≤ 9000000000000000000)) (Tree.ite (labB f (lps rs) t) (Tree.ite (goodT f []) (Tree.ite (f == (lookF f (lps rs) t).fst) (Tree.ite (dYear ((t - f) / 86400) == (labL f (lps rs) t).1 && (dMonth ((t - f) / 86400) == (labL f (lps rs) t).2 && (dDay ((t - f) / 86400) == (labL f (lps rs) t).3 && ((t - f) % 86400 / 3600 == (labL f (lps rs) t).4 && ((t - f) % 3600 / 60 == (labL f (lps rs) t).5 && ((t - f) % 60 == (labL f (lps rs) t).6 && true)))))) (Tree.ite (goodT f []) (Tree.ite (decide (t ≤ 9000000000000000000)) (Tree.ite (labB f [] t) (Tree.ite (decide (n = rs.length) && goodT f (lps rs) && decide (t ≤ 9000000000000000000)) (Tree.ite (labB f (lps rs) t) (Tree.leaf { v := V.bool (f == (lookF f (lps rs) t).fst && (false == fl61 (dayZ (labL f (lps rs) t).1 (labL f (lps rs) t).2 (labL f (lps rs) t).3) (decide (12 ≤ (labL f (lps rs) t).4)) false (lps rs) && (false == fl59 (dayZ (labL f (lps rs) t).1 (labL f (lps rs) t).2 (labL f (lps rs) t).3) (decide (12 ≤ (labL f (lps rs) t).4)) false (lps rs) && true))), upd := [none], new := [] }) (Tree.leaf { v := V.bool (f == 0 && false), upd := [none], new := [] })) Tree.fail) (Tree.ite (decide (n = rs.length) && goodT f (lps rs) && decide (t ≤ 9000000000000000000)) (Tree.ite (labB f (lps rs) t) (Tree.leaf { v := V.bool (0 == (lookF f (lps rs) t).fst && (false == fl61 (dayZ (labL f (lps rs) t).1 (labL f (lps rs) t).2 (labL f (lps rs) t).3) (decide (12 ≤ (labL f (lps rs) t).4)) false (lps rs) && (false == fl59 (dayZ (labL f (lps rs) t).1 (labL f (lps rs) t).2 (labL f (lps rs) t).3) (decide (12 ≤ (labL f (lps rs) t).4)) false (lps rs) && false))), upd := [none], new := [] }) (Tree.leaf { v := V.bool true, upd := [none], new := [] })) Tree.fail)) Tree.fail) Tree.fail) (Tree.leaf { v := V.fls, upd := [none], new := [] })) (Tree.leaf { v := V.fls, upd := [none], new := [] })) Tree.fail) (Tree.ite (goodT f []) (Tree.ite (f == (lookF f (lps rs) t).fst) (Tree.ite (dYear ((t - f) / 86400) == 0 && (dMonth ((t - f) / 86400) == 0 && (dDay ((t - f) / 86400) == 0 && ((t - f) % 86400 / 3600 == 0 && ((t - f) % 3600 / 60 == 0 && ((t - f) % 60 == 0 && true)))))) (Tree.leaf { v := V.fls, upd := [none], new := [] }) (Tree.leaf { v := V.fls, upd := [none], new := [] })) (Tree.leaf { v := V.fls, upd := [none], new := [] })) Tree.fail)) Tree.fail) (Tree.ite (decide (n = rs.length) && goodT f (lps rs) && decide (t ≤ 9000000000000000000)) (Tree.ite (labB f (lps rs) t) (Tree.ite (goodT f []) (Tree.ite (f == (lookF f (lps rs) t).fst) (Tree.ite (Lab.eqB Lab.zero (labL f (lps rs) t)) (Tree.leaf { v := V.fls, upd := [none], new := [] }) (Tree.leaf { v := V.fls, upd := [none], new := [] })) (Tree.leaf { v := V.fls, upd := [none], new := [] })) Tree.fail) (Tree.ite (goodT f []) (Tree.ite (f == (lookF f (lps rs) t).fst) (Tree.ite (goodT f []) (Tree.ite (decide (t ≤ 9000000000000000000)) (Tree.ite (labB f [] t) (Tree.ite (decide (n = rs.length) && goodT f (lps rs) && decide (t ≤ 9000000000000000000)) (Tree.ite (labB f (lps rs) t) (Tree.leaf { v := V.bool (f == (lookF f (lps rs) t).fst && (false == fl61 (dayZ (labL f (lps rs) t).1 (labL f (lps rs) t).2 (labL f (lps rs) t).3) (decide (12 ≤ (labL f (lps rs) t).4)) false (lps rs) && (false == fl59 (dayZ (labL f (lps rs) t).1 (labL f (lps rs) t).2 (labL f (lps rs) t).3) (decide (12 ≤ (labL f (lps rs) t).4)) false (lps rs) && true))), upd := [none], new := [] }) (Tree.leaf { v := V.bool (f == 0 && false), upd := [none], new := [] })) Tree.fail) (Tree.ite (decide (n = rs.length) && goodT f (lps rs) && decide (t ≤ 9000000000000000000)) (Tree.ite (labB f (lps rs) t) (Tree.leaf { v := V.bool (0 == (lookF f (lps rs) t).fst && (false == fl61 (dayZ (labL f (lps rs) t).1 (labL f (lps rs) t).2 (labL f (lps rs) t).3) (decide (12 ≤ (labL f (lps rs) t).4)) false (lps rs) && (false == fl59 (dayZ (labL f (lps rs) t).1 (labL f (lps rs) t).2 (labL f (lps rs) t).3) (decide (12 ≤ (labL f (lps rs) t).4)) false (lps rs) && false))), upd := [none], new := [] }) (Tree.leaf { v := V.bool true, upd := [none], new := [] })) Tree.fail)) Tree.fail) Tree.fail) (Tree.leaf { v := V.fls, upd := [none], new := [] })) Tree.fail)) Tree.fail)) Tree.fail) Tree.fail) Tree.fail))) Tree.fail) (Tree.ite (decide (n = rs.length)) (Tree.ite (!true == goodT f (lps rs)) (Tree.leaf { v := V.fls, upd := [none], new := [] }) (Tree.ite (farB t) (Tree.leaf { v := V.bool true, upd := [none], new := [] }) (Tree.ite (decide (n = rs.length) && goodT f (lps rs)) (Tree.ite (okTA n (n + 1) n f (lpRows (lps rs)) (offsF f (lps rs)) (stF f (lps rs))) (Tree.ite (decide (t ≤ 9000000000000000000)) (Tree.ite (labB f (lps (lpRows (lps rs))) t) (Tree.ite (decide (n = rs.length) && goodT f (lps rs) && decide (t ≤ 9000000000000000000)) (Tree.ite (labB f (lps rs) t) (Tree.ite (okTA n (n + 1) n f (lpRows (lps rs)) (offsF f (lps rs)) (stF f (lps rs))) (Tree.ite ((lookF f (lps (lpRows (lps rs))) t).fst == (lookF f (lps rs) t).fst) (Tree.ite (Lab.eqB (labL f (lps (lpRows (lps rs))) t) (labL f (lps rs) t)) (Tree.ite (okTA n (n + 1) n f (lpRows (lps rs)) (offsF f (lps rs)) (stF f (lps rs))) (Tree.ite (decide (t ≤ 9000000000000000000)) (Tree.ite (labB f (lps (lpRows (lps rs))) t) (Tree.ite (decide (n = rs.length) && goodT f (lps rs) && decide (t ≤ 9000000000000000000)) (Tree.ite (labB f (lps rs) t) (Tree.leaf { v := V.bool ((lookF f (lps (lpRows (lps rs))) t).fst == (lookF f (lps rs) t).fst && (fl61 (dayZ (labL f (lps (lpRows (lps rs))) t).1 (labL f (lps (lpRows (lps rs))) t).2 (labL f (lps (lpRows (lps rs))) t).3) (decide (12 ≤ (labL f (lps (lpRows (lps rs))) t).4)) false (lps (lpRows (lps rs))) == fl61 (dayZ (labL f (lps rs) t).1 (labL f (lps rs) t).2 (labL f (lps rs) t).3) (decide (12 ≤ (labL f (lps rs) t).4)) false (lps rs) && (fl59 (dayZ (labL f (lps (lpRows (lps rs))) t).1 (labL f (lps (lpRows (lps rs))) t).2 (labL f (lps (lpRows (lps rs))) t).3) (decide (12 ≤ (labL f (lps (lpRows (lps rs))) t).4)) false (lps (lpRows (lps rs))) == fl59 (dayZ (labL f (lps rs) t).1 (labL f (lps rs) t).2 (labL f (lps rs) t).3) (decide (12 ≤ (labL f (lps rs) t).4)) false (lps rs) && true))), upd := [none], new := [] }) (Tree.leaf { v := V.bool ((lookF f (lps (lpRows (lps rs))) t).fst == 0 && (fl61 (dayZ (labL f (lps (lpRows (lps rs))) t).1 (labL f (lps (lpRows (lps rs))) t).2 (labL f (lps (lpRows (lps rs))) t).3) (decide (12 ≤ (labL f (lps (lpRows (lps rs))) t).4)) false (lps (lpRows (lps rs))) == false && (fl59 (dayZ (labL f (lps (lpRows (lps rs))) t).1 (labL f (lps (lpRows (lps rs))) t).2 (labL f (lps (lpRows (lps rs))) t).3) (decide (12 ≤ (labL f (lps (lpRows (lps rs))) t).4)) false (lps (lpRows (lps rs))) == false && false))), upd := [none], new := [] })) Tree.fail) (Tree.ite (decide (n = rs.length) && goodT f (lps rs) && decide (t ≤ 9000000000000000000)) (Tree.ite (labB f (lps rs) t) (Tree.leaf { v := V.bool (0 == (lookF f (lps rs) t).fst && (false == fl61 (dayZ (labL f (lps rs) t).1 (labL f (lps rs) t).2 (labL f (lps rs) t).3) (decide (12 ≤ (labL f (lps rs) t).4)) false (lps rs) && (false == fl59 (dayZ (labL f (lps rs) t).1 (labL f (lps rs) t).2 (labL f (lps rs) t).3) (decide (12 ≤ (labL f (lps rs) t).4)) false (lps rs) && false))), upd := [none], new := [] }) (Tree.leaf { v := V.bool true, upd := [none], new := [] })) Tree.fail)) Tree.fail) Tree.fail) (Tree.leaf { v := V.fls, upd := [none], new := [] })) (Tree.leaf { v := V.fls, upd := [none], new := [] })) Tree.fail) (Tree.ite (okTA n (n + 1) n f (lpRows (lps rs)) (offsF f (lps rs)) (stF f (lps rs))) (Tree.ite ((lookF f (lps (lpRows (lps rs))) t).fst == (lookF f (lps rs) t).fst) (Tree.ite (Lab.eqB (labL f (lps (lpRows (lps rs))) t) Lab.zero) (Tree.leaf { v := V.fls, upd := [none], new := [] }) (Tree.leaf { v := V.fls, upd := [none], new := [] })) (Tree.leaf { v := V.fls, upd := [none], new := [] })) Tree.fail)) Tree.fail) (Tree.ite (decide (n = rs.length) && goodT f (lps rs) && decide (t ≤ 9000000000000000000)) (Tree.ite (labB f (lps rs) t) (Tree.ite (okTA n (n + 1) n f (lpRows (lps rs)) (offsF f (lps rs)) (stF f (lps rs))) (Tree.ite ((lookF f (lps (lpRows (lps rs))) t).fst == (lookF f (lps rs) t).fst) (Tree.ite (Lab.eqB Lab.zero (labL f (lps rs) t)) (Tree.leaf { v := V.fls, upd := [none], new := [] }) (Tree.leaf { v := V.fls, upd := [none], new := [] })) (Tree.leaf { v := V.fls, upd := [none], new := [] })) Tree.fail) (Tree.ite (okTA n (n + 1) n f (lpRows (lps rs)) (offsF f (lps rs)) (stF f (lps rs))) (Tree.ite ((lookF f (lps (lpRows (lps rs))) t).fst == (lookF f (lps rs) t).fst) (Tree.ite (okTA n (n + 1) n f (lpRows (lps rs)) (offsF f (lps rs)) (stF f (lps rs))) (Tree.ite (decide (t ≤ 9000000000000000000)) (Tree.ite (labB f (lps (lpRows (lps rs))) t) (Tree.ite (decide (n = rs.length) && goodT f (lps rs) && decide (t ≤ 9000000000000000000)) (Tree.ite (labB f (lps rs) t) (Tree.leaf { v := V.bool ((lookF f (lps (lpRows (lps rs))) t).fst == (lookF f (lps rs) t).fst && (fl61 (dayZ (labL f (lps (lpRows (lps rs))) t).1 (labL f (lps (lpRows (lps rs))) t).2 (labL f (lps (lpRows (lps rs))) t).3) (decide (12 ≤ (labL f (lps (lpRows (lps rs))) t).4)) false (lps (lpRows (lps rs))) == fl61 (dayZ (labL f (lps rs) t).1 (labL f (lps rs) t).2 (labL f (lps rs) t).3) (decide (12 ≤ (labL f (lps rs) t).4)) false (lps rs) && (fl59 (dayZ (labL f (lps (lpRows (lps rs))) t).1 (labL f (lps (lpRows (lps rs))) t).2 (labL f (lps (lpRows (lps rs))) t).3) (decide (12 ≤ (labL f (lps (lpRows (lps rs))) t).4)) false (lps (lpRows (lps rs))) == fl59 (dayZ (labL f (lps rs) t).1 (labL f (lps rs) t).2 (labL f (lps rs) t).3) (decide (12 ≤ (labL f (lps rs) t).4)) false (lps rs) && true))), upd := [none], new := [] }) (Tree.leaf { v := V.bool ((lookF f (lps (lpRows (lps rs))) t).fst == 0 && (fl61 (dayZ (labL f (lps (lpRows (lps rs))) t).1 (labL f (lps (lpRows (lps rs))) t).2 (labL f (lps (lpRows (lps rs))) t).3) (decide (12 ≤ (labL f (lps (lpRows (lps rs))) t).4)) false (lps (lpRows (lps rs))) == false && (fl59 (dayZ (labL f (lps (lpRows (lps rs))) t).1 (labL f (lps (lpRows (lps rs))) t).2 (labL f (lps (lpRows (lps rs))) t).3) (decide (12 ≤ (labL f (lps (lpRows (lps rs))) t).4)) false (lps (lpRows (lps rs))) == false && false))), upd := [none], new := [] })) Tree.fail) (Tree.ite (decide (n = rs.length) && goodT f (lps rs) && decide (t ≤ 9000000000000000000)) (Tree.ite (labB f (lps rs) t) (Tree.leaf { v := V.bool (0 == (lookF f (lps rs) t).fst && (false == fl61 (dayZ (labL f (lps rs) t).1 (labL f (lps rs) t).2 (labL f (lps rs) t).3) (decide (12 ≤ (labL f (lps rs) t).4)) false (lps rs) && (false == fl59 (dayZ (labL f (lps rs) t).1 (labL f (lps rs) t).2 (labL f (lps rs) t).3) (decide (12 ≤ (labL f (lps rs) t).4)) false (lps rs) && false))), upd := [none], new := [] }) (Tree.leaf { v := V.bool true, upd := [none], new := [] })) Tree.fail)) Tree.fail) Tree.fail) (Tree.leaf { v := V.fls, upd := [none], new := [] })) Tree.fail)) Tree.fail)) Tree.fail) Tree.fail) Tree.fail))) Tree.fail)) (Tree.ite (decide (n = rs.length)) (Tree.ite (!false == goodT f (lps rs)) (Tree.leaf { v := V.fls, upd := [none], new := [] }) (Tree.leaf { v := V.bool true, upd := [none], new := [] })) Tree.fail)) Tree.fail) from by kernel_rfl]
    simp only [denN_ite, denN_leaf, denN_fail, decide_eq_true h1, decide_eq_true h2, lps_rows]
    cases hg : goodT f (lps rs) with
    | false => rfl
    | true =>
      cases hf : farB t with
      | true => by_cases h0 : n = 0
                · rw [decide_eq_true h0]; rfl
                · rw [decide_eq_false h0]; rfl
      | false =>
        simp only [farB, Bool.or_eq_false_iff, decide_eq_false_iff_not] at hf
        rw [decide_eq_true (show t ≤ 9000000000000000000 by omega)]
        by_cases h0 : n = 0
        · have e : lps rs = [] := lps_nil (by omega)
          have e2 : labL f [] t = ofL (t - f) := rfl
          have e3 : lookF f [] t = (f, none) := rfl
          rw [e] at hg ⊢
          simp only [decide_eq_true h0, hg, e2, e3, ofL, beq_self_eq_true, Bool.and_self, fl61, fl59]
          cases labB f [] t <;> rfl
        · simp only [decide_eq_false h0, okTA_lp hg h1 h0, eqL_self, beq_self_eq_true, Bool.and_self]
          cases labB f (lps rs) t <;> rfl
  · simp [den_fail] at h
end Go.Proofs.YtbfiaogmfjadeaaDoor

set_option maxRecDepth 100000
set_option linter.unusedSimpArgs false
set_option linter.unusedVariables false
namespace Go.Proofs.YtbfiaogmfjadeaaDoor
open Go.Rx
theorem specWeak {k : FuncId} {s s' : Rx.Spec} (h : SpecOK P k s) (hs : ∀ args bs r, (s' args bs).den = some r → (s args bs).denN = some r.nrm) : SpecOK P k s' := ⟨h.correct.mono hs, h.good⟩
theorem specOr {k : FuncId} {s1 s2 s : Rx.Spec} (h1 : SpecOK P k s1) (h2 : SpecOK P k s2) (hs : ∀ args bs r, (s args bs).den = some r → (s1 args bs).den = some r ∨ (s2 args bs).den = some r) : SpecOK P k s := by
  refine ⟨?_, h1.good⟩
  intro args bs r hr
  rcases hs args bs r hr with h | h
  · exact h1.correct args bs r h
  · exact h2.correct args bs r h
theorem onT_A {f : Int} {rs : List (List V)} {k : Int → List Lp → List (Option (Option Blk)) → Tree Res} (hg : goodT f (lps rs) = true) (h1 : 1 ≤ rs.length) : (onT (tabA f rs) k).den = (k f (lps rs) [none, none, none, none]).den := by
  show (Tree.need (okTA rs.length (rs.length + 1) rs.length f rs (offsF f (lps rs)) (stF f (lps rs))) (k f (lps rs) [none, none, none, none])).den = _
  rw [okTA_of hg h1]; rfl
theorem onT_N {f : Int} {k : Int → List Lp → List (Option (Option Blk)) → Tree Res} (hg : goodT f [] = true) : (onT (tabN f) k).den = (k f [] [none, none]).den := by
  show (Tree.need (goodT f []) (k f [] [none, none])).den = _
  rw [hg]; rfl
/-- What is said of a table where all goes well is said of it. -/
theorem onT_weak {bs : List Blk} {k k' : Int → List Lp → List (Option (Option Blk)) → Tree Res} {r : Res} (h : (onT bs k').den = some r) (hk : ∀ f ls u r, (k' f ls u).den = some r → (k f ls u).denN = some r.nrm) : (onT bs k).denN = some r.nrm := by
  rcases onT_den h with ⟨f, rs, rfl, hg, h1, q⟩ | ⟨f, rfl, hg, q⟩
  · have := hk _ _ _ _ q
    unfold Tree.denN at this ⊢
    rw [onT_A hg h1]; exact this
  · have := hk _ _ _ _ q
    unfold Tree.denN at this ⊢
    rw [onT_N hg]; exact this
def mkA : Rx.Spec := fun a b => match a, b with
  | [.agg [.int .i64 f, .sl 0 0 0 2 n none]], [.rows [.int .i64, .int .i64] rs] => .need (decide (n = rs.length) && decide (n * 16 ≤ 140737488351232) && goodT f (lps rs) && decide (n ≠ 0)) (.leaf ⟨.tup [.ptr 1 0 0 0, .tru], [none], [.cells [.sl 2 0 0 2 n none, .sl 3 0 0 1 (n + 1) none, .sl 4 0 0 1 n none], .rows [.int .i64, .int .i64] (lpRows (lps rs)), .ints .i64 (f :: offsF f (lps rs)), .ints .i64 (stF f (lps rs))]⟩)
  | _, _ => .fail
theorem mkA_ok : SpecOK P 11 mkA := by
  refine specWeak mk_ok fun args bs r h => ?_
  unfold mkA at h
  split at h
  · rename_i f n rs
    rw [den_need, denLf] at h
    simp only [Bool.and_eq_true, decide_eq_true_eq] at h
    obtain ⟨⟨⟨⟨h1, h2⟩, hg⟩, h0⟩, h⟩ := h
    cases h
    show (Tree.need (decide (n = rs.length) && decide (n * 16 ≤ 140737488351232)) (.ite (goodT f (lps rs)) (.ite (decide (n = 0)) _ _) _)).denN = _
    rw [decide_eq_true h1, decide_eq_true h2, hg, decide_eq_false h0]; rfl
  · simp [den_fail] at h
def mkN : Rx.Spec := fun a b => match a, b with
  | [.agg [.int .i64 f, .sl 0 0 0 2 n none]], [.rows [.int .i64, .int .i64] rs] => .need (decide (n = rs.length) && goodT f [] && decide (n = 0)) (.leaf ⟨.tup [.ptr 1 0 0 0, .tru], [none], [.cells [.nils, .sl 2 0 0 1 1 (some 1), .nils], .ints .i64 [f]]⟩)
  | _, _ => .fail
theorem mkN_ok : SpecOK P 11 mkN := by
  refine specWeak mk_ok fun args bs r h => ?_
  unfold mkN at h
  split at h
  · rename_i f n rs
    rw [den_need, denLf] at h
    simp only [Bool.and_eq_true, decide_eq_true_eq] at h
    obtain ⟨⟨⟨h1, hg⟩, h0⟩, h⟩ := h
    cases h
    have e : lps rs = [] := lps_nil (by omega)
    show (Tree.need (decide (n = rs.length) && decide (n * 16 ≤ 140737488351232)) (.ite (goodT f (lps rs)) (.ite (decide (n = 0)) _ _) _)).denN = _
    rw [decide_eq_true h1, decide_eq_true (show n * 16 ≤ 140737488351232 by omega), e, hg, decide_eq_true h0]; rfl
  · simp [den_fail] at h
def farF : Rx.Spec := fun a b => match a, b with
  | [.int .i64 t], [] => .need (!farB t) (.leaf ⟨.fls, [], []⟩)
  | _, _ => .fail
theorem farF_ok : SpecOK P 13 farF := by
  refine specWeak far_ok fun args bs r h => ?_
  unfold farF at h
  split at h
  · rename_i t
    rw [den_need, denLf] at h
    obtain ⟨h1, h⟩ := h
    cases h
    show (Tree.leaf ⟨.bool (farB t), [], []⟩ : Tree Res).denN = _
    have : farB t = false := by simpa using h1
    rw [this]; rfl
  · simp [den_fail] at h
def alT : Rx.Spec := fun a b => match a, b with
  | [], [] => .leaf ⟨.tru, [], []⟩
  | _, _ => .fail
theorem alT_ok : SpecOK P 14 alT := by
  refine specWeak al_ok fun args bs r h => ?_
  unfold alT at h
  split at h
  · rw [denLf] at h; cases h; rfl
  · simp [den_fail] at h
def lbT : Rx.Spec := fun a b => match a with
  | [.ptr 0 0 0 0, .int .i64 t] => onT b fun f ls u => .need (decide (t ≤ 9000000000000000000) && labB f ls t) (.leaf ⟨.tup [(labL f ls t).v, .tru], u, []⟩)
  | _ => .fail
theorem lbT_ok : SpecOK P 16 lbT := by
  refine specWeak lb_ok fun args bs r h => ?_
  unfold lbT at h
  split at h
  · rename_i t
    unfold lbS
    simp only
    refine onT_weak h fun f ls u r q => ?_
    rw [den_need, denLf] at q
    simp only [Bool.and_eq_true, decide_eq_true_eq] at q
    obtain ⟨⟨q1, q2⟩, q3⟩ := q
    cases q3
    rw [decide_eq_true q1, q2]; rfl
  · simp [den_fail] at h
def taT : Rx.Spec := fun a b => match a with
  | [.ptr 0 0 0 0, v] => match Lab.of v with
    | some l => onT b fun f ls u => .need (taiB f ls l) (.leaf ⟨.tup [.int .i64 (taiZ f ls l), .tru], u, []⟩)
    | none => .fail
  | _ => .fail
theorem taT_ok : SpecOK P 23 taT := by
  refine specWeak tai_ok fun args bs r h => ?_
  unfold taT at h
  split at h
  · split at h
    · rename_i v _ l hl
      show (match Lab.of v with
        | some l => onT bs fun f ls u => .ite (taiB f ls l) (.leaf ⟨.tup [.int .i64 (taiZ f ls l), .bool true], u, []⟩) (.leaf ⟨.tup [.int .i64 0, .bool false], u, []⟩)
        | none => .fail).denN = _
      rw [hl]
      refine onT_weak h fun f ls u r q => ?_
      rw [den_need, denLf] at q
      obtain ⟨q1, q3⟩ := q
      cases q3
      rw [q1]; rfl
    · simp [den_fail] at h
  · simp [den_fail] at h
def secT : Rx.Spec := fun a b => match a, b with
  | [v], [] => match Lab.of v with
    | some l => .need (rightZ l) (.leaf ⟨.tup [.int .i64 (secZ l), .tru], [], []⟩)
    | none => .fail
  | _, _ => .fail
theorem secT_ok : SpecOK P 25 secT := by
  refine specWeak sec_ok fun args bs r h => ?_
  unfold secT at h
  split at h
  · split at h
    · rename_i v _ l hl
      rw [den_need, denLf] at h
      obtain ⟨q1, q3⟩ := h
      cases q3
      unfold secS
      simp only [hl]
      rw [q1]; rfl
    · simp [den_fail] at h
  · simp [den_fail] at h
def noT : Rx.Spec := fun a b => match a with
  | [.ptr 0 0 0 0, .int .i64 t] => onT b fun f ls u => .need (decide (t ≤ 9000000000000000000) && labB f ls t) (.leaf ⟨(noteT f ls t).v, u, []⟩)
  | _ => .fail
theorem noT_ok : SpecOK P 19 noT := by
  refine specWeak no_ok fun args bs r h => ?_
  unfold noT at h
  split at h
  · rename_i t
    unfold noS
    simp only
    refine onT_weak h fun f ls u r q => ?_
    rw [den_need, denLf] at q
    simp only [Bool.and_eq_true, decide_eq_true_eq] at q
    obtain ⟨⟨q1, q2⟩, q3⟩ := q
    cases q3
    rw [decide_eq_true q1, q2]; rfl
  · simp [den_fail] at h
def byT : Rx.Spec := fun a b => match a, b with
  | [v, .int .i64 t], [] => match Nte.of v with
    | some n => .need (byB n t) (.leaf ⟨.tup [(byL n t).v, .tru], [], []⟩)
    | none => .fail
  | _, _ => .fail
theorem byT_ok : SpecOK P 27 byT := by
  refine specWeak by_ok fun args bs r h => ?_
  unfold byT at h
  split at h
  · split at h
    · rename_i v t _ n hn
      rw [den_need, denLf] at h
      obtain ⟨q1, q3⟩ := h
      cases q3
      unfold byS
      simp only [hn]
      rw [q1]; rfl
    · simp [den_fail] at h
  · simp [den_fail] at h
def spsT : Rx.Spec := fun a b => match a, b with
  | [v, .agg [.int .i64 lo, .int .i64 hi, k]], [] => match Nte.of v, k.asBool with
    | some n, some k => .need (spsB n lo hi k) (.leaf ⟨.tup [(byL n (lo / 1000000000)).v, (byL n (hi / 1000000000)).v, .tru], [], []⟩)
    | _, _ => .fail
  | _, _ => .fail
def spOfT : Rx.Spec := fun a b => match a, b with
  | [.int .i64 lo, .int .i64 hi], [] => .need (spB lo hi) (.leaf ⟨.agg [.int .i64 lo, .int .i64 hi, .bool true], [], []⟩)
  | _, _ => .fail
theorem spOfT_ok : SpecOK P 31 spOfT := by
  refine specWeak spOf_ok fun args bs r h => ?_
  unfold spOfT at h
  split at h
  · rename_i lo hi
    rw [den_need, denLf] at h
    obtain ⟨q1, q3⟩ := h
    cases q3
    show (Tree.ite (spB lo hi) _ _).denN = _
    rw [q1]; rfl
  · simp [den_fail] at h
def spsU : Rx.Spec := fun a b => match a, b with
  | [v, .agg [.int .i64 lo, .int .i64 hi, .bool k]], [] => match Nte.of v with
    | some n => .need (spsB n lo hi k) (.leaf ⟨.tup [(byL n (lo / 1000000000)).v, (byL n (hi / 1000000000)).v, .tru], [], []⟩)
    | none => .fail
  | _, _ => .fail
theorem spsU_ok : SpecOK P 29 spsU := by
  refine specWeak sps_ok fun args bs r h => ?_
  unfold spsU at h
  split at h
  · split at h
    · rename_i v lo hi k _ n hn
      rw [den_need, denLf] at h
      obtain ⟨q1, q3⟩ := h
      cases q3
      unfold spsS
      simp only [hn]
      rw [q1]; rfl
    · simp [den_fail] at h
  · simp [den_fail] at h
end Go.Proofs.YtbfiaogmfjadeaaDoor

set_option maxRecDepth 100000
set_option linter.unusedSimpArgs false
set_option linter.unusedVariables false
namespace Go.Proofs.YtbfiaogmfjadeaaDoor
open Go.Rx
theorem day_of_sec {l : Lab} (h : rightZ l = true) (h6 : l.s ≠ 60) : dayZ l.y l.mo l.d = secZ l / 86400 ∧ secZ l % 86400 = l.h * 3600 + l.mi * 60 + l.s := by
  obtain ⟨q0, q1, q2, q3, q4, q5, q6, q7⟩ := right_mem h
  unfold secZ; omega
theorem less_day {a b : Lab} (ha : rightZ a = true) (hb : rightZ b = true) (h : dayZ a.y a.mo a.d < dayZ b.y b.mo b.d) : lessZ a b = true := by
  rw [lessZ_iff]
  have := (day_lt_iff (right_mem ha).1 (right_mem hb).1).2 h
  omega
theorem less_of_sec {a b : Lab} (ha : rightZ a = true) (hb : rightZ b = true) (h : secZ a < secZ b) : lessZ a b = true := by
  cases hl : lessZ a b with
  | true => rfl
  | false => have := (less_secs ha hb).2 hl; omega
theorem goes {f t : Int} {ls : List Lp} (hg : goodT f ls = true) (h1 : labB f ls t = true) (h2 : labB f ls (t + 1) = true) :
    lessZ (labL f ls t) (labL f ls (t + 1)) = true ∧ (secZ (labL f ls (t + 1)) = secZ (labL f ls t) + 1 ∨ (secZ (labL f ls (t + 1)) = secZ (labL f ls t) ∧ (labL f ls t).s = 60) ∨
    (secZ (labL f ls (t + 1)) = secZ (labL f ls t) + 2 ∧ (labL f ls (t + 1)).h = 0 ∧ (labL f ls (t + 1)).mi = 0 ∧ (labL f ls (t + 1)).s = 0)) := by
  obtain ⟨g1, g2, g3, g4⟩ := goodT_iff.1 hg
  obtain ⟨a1, a2, a3, a4⟩ := lab_right hg h1
  obtain ⟨b1, b2, b3, b4⟩ := lab_right hg h2
  rcases look_next t ls none f g4 with ⟨e, e2⟩ | ⟨e, e2, e3⟩ | ⟨e, e2, e3, d, e4⟩
  · have : secZ (labL f ls (t + 1)) = secZ (labL f ls t) + 1 := by omega
    exact ⟨less_of_sec a1 b1 (by omega), .inl this⟩
  · have hs : secZ (labL f ls (t + 1)) = secZ (labL f ls t) := by omega
    have h60 := a3.2 e2
    have hm : (labL f ls (t + 1)).s ≠ 60 := fun h => (b3.1 h) e3
    obtain ⟨m1, m2⟩ := day_of_sec b1 hm
    obtain ⟨q0, q1, q2, q3, q4, q5, q6, q7⟩ := right_mem a1
    obtain ⟨r0, r1, r2, r3, r4, r5, r6, r7⟩ := right_mem b1
    have hq := q7 h60
    have hsec : secZ (labL f ls t) = dayZ (labL f ls t).y (labL f ls t).mo (labL f ls t).d * 86400 + (labL f ls t).h * 3600 + (labL f ls t).mi * 60 + (labL f ls t).s := rfl
    exact ⟨less_day a1 b1 (by omega), .inr (.inl ⟨hs, h60⟩)⟩
  · have hs : secZ (labL f ls (t + 1)) = secZ (labL f ls t) + 2 := by omega
    have hm : (labL f ls (t + 1)).s ≠ 60 := fun h => (b3.1 h) e3
    obtain ⟨m1, m2⟩ := day_of_sec b1 hm
    obtain ⟨r0, r1, r2, r3, r4, r5, r6, r7⟩ := right_mem b1
    have hz : secZ (labL f ls (t + 1)) % 86400 = 0 := by omega
    exact ⟨less_of_sec a1 b1 (by omega), .inr (.inr ⟨hs, by omega, by omega, by omega⟩)⟩
end Go.Proofs.YtbfiaogmfjadeaaDoor

set_option maxRecDepth 100000
set_option linter.unusedSimpArgs false
set_option linter.unusedVariables false
namespace Go.Proofs.YtbfiaogmfjadeaaDoor
open Go.Rx
abbrev ltG : List (Nat × Rx.Spec) := [kpE, (11, mkS), (14, alT), (23, taS), (24, rtaS)]
theorem ltG_ok : GammaOK P ltG := .cons keep_ok (.cons mk_ok (.cons alT_ok (.cons tai_ok (.cons rta_ok (.nil P)))))
def lwTimesS : Rx.Spec := fun a b => match a, b with
  | [.agg [.int .i64 f, .sl 0 0 0 2 n none], v], [.rows [.int .i64, .int .i64] rs] => match Lab.of v with
    | some l => .need (decide (n = rs.length) && decide (n * 16 ≤ 140737488351232)) (.leaf ⟨.bool true, [none], []⟩)
    | none => .fail
  | _, _ => .fail
theorem lwTimes_ok : SpecOK P 7 lwTimesS := by
  refine specOK_fast ltG_ok hm (Λ := loopsOf []) Tryd.func7 (by kernel_rfl) (LoopsOK.nil (by kernel_rfl)) ?_
  intro args bs r h
  unfold lwTimesS at h
  split at h
  · split at h
    · rename_i f n v rs _ l hl
      rw [Lab.of_eq hl]
      rw [den_need, denLf] at h
      simp only [Bool.and_eq_true, decide_eq_true_eq] at h
      obtain ⟨⟨h1, h2⟩, h⟩ := h
      cases h
      rw [show (fFn P (specsOf ltG) (loopsOf []) Tryd.f7 [.agg [.int .i64 f, .sl 0 0 0 2 n none], l.v] [.rows lpK rs]).denN = Tree.denN (Tree.ite (decide (n = rs.length) && decide (n * 16 ≤ 140737488351232)) (Tree.ite (goodT f (lps rs)) (Tree.ite (decide (n = 0)) (Tree.ite (goodT f []) (Tree.ite (taiB f [] l) (Tree.ite (decide (n = rs.length) && goodT f (lps rs)) (Tree.ite (taiB f (lps rs) l) (Tree.ite (taiZ f [] l == taiZ f (lps rs) l) (Tree.leaf { v := V.bool true, upd := [none], new := [] }) (Tree.leaf { v := V.fls, upd := [none], new := [] })) (Tree.ite (taiZ f [] l == 0) (Tree.leaf { v := V.bool false, upd := [none], new := [] }) (Tree.leaf { v := V.fls, upd := [none], new := [] }))) Tree.fail) (Tree.ite (decide (n = rs.length) && goodT f (lps rs)) (Tree.ite (taiB f (lps rs) l) (Tree.ite (0 == taiZ f (lps rs) l) (Tree.leaf { v := V.bool false, upd := [none], new := [] }) (Tree.leaf { v := V.fls, upd := [none], new := [] })) (Tree.leaf { v := V.bool true, upd := [none], new := [] })) Tree.fail)) Tree.fail) (Tree.ite (okTA n (n + 1) n f (lpRows (lps rs)) (offsF f (lps rs)) (stF f (lps rs))) (Tree.ite (taiB f (lps (lpRows (lps rs))) l) (Tree.ite (decide (n = rs.length) && goodT f (lps rs)) (Tree.ite (taiB f (lps rs) l) (Tree.ite (taiZ f (lps (lpRows (lps rs))) l == taiZ f (lps rs) l) (Tree.leaf { v := V.bool true, upd := [none], new := [] }) (Tree.leaf { v := V.fls, upd := [none], new := [] })) (Tree.ite (taiZ f (lps (lpRows (lps rs))) l == 0) (Tree.leaf { v := V.bool false, upd := [none], new := [] }) (Tree.leaf { v := V.fls, upd := [none], new := [] }))) Tree.fail) (Tree.ite (decide (n = rs.length) && goodT f (lps rs)) (Tree.ite (taiB f (lps rs) l) (Tree.ite (0 == taiZ f (lps rs) l) (Tree.leaf { v := V.bool false, upd := [none], new := [] }) (Tree.leaf { v := V.fls, upd := [none], new := [] })) (Tree.leaf { v := V.bool true, upd := [none], new := [] })) Tree.fail)) Tree.fail)) (Tree.leaf { v := V.tru, upd := [none], new := [] })) Tree.fail) from by kernel_rfl]
      simp only [denN_ite, denN_leaf, denN_fail, decide_eq_true h1, decide_eq_true h2, lps_rows]
      cases hg : goodT f (lps rs) with
      | false => rfl
      | true =>
        by_cases h0 : n = 0
        · have e : lps rs = [] := lps_nil (by omega)
          rw [e] at hg ⊢
          simp only [decide_eq_true h0, hg, beq_self_eq_true]
          cases taiB f [] l <;> rfl
        · simp only [decide_eq_false h0, okTA_lp hg h1 h0, beq_self_eq_true]
          cases taiB f (lps rs) l <;> rfl
    · simp [den_fail] at h
  · simp [den_fail] at h
/-! ### LeapGoes -/
abbrev goE : List (Nat × Rx.Spec) := [kpE, (11, mkS), (13, farS), (14, alT), (16, lbS)]
theorem goE_ok : GammaOK P goE := .cons keep_ok (.cons mk_ok (.cons far_ok (.cons alT_ok (.cons lb_ok (.nil P)))))
abbrev goA : List (Nat × Rx.Spec) := [kpE, (11, mkA), (13, farF), (14, alT), (16, lbT), (23, taT), (25, secT), (26, lessS)]
theorem goA_ok : GammaOK P goA := .cons keep_ok (.cons mkA_ok (.cons farF_ok (.cons alT_ok (.cons lbT_ok (.cons taT_ok (.cons secT_ok (.cons less_ok (.nil P))))))))
abbrev goN : List (Nat × Rx.Spec) := [kpE, (11, mkN), (13, farF), (14, alT), (16, lbT), (23, taT), (25, secT), (26, lessS)]
theorem goN_ok : GammaOK P goN := .cons keep_ok (.cons mkN_ok (.cons farF_ok (.cons alT_ok (.cons lbT_ok (.cons taT_ok (.cons secT_ok (.cons less_ok (.nil P))))))))
def lwGoesE : Rx.Spec := fun a b => match a, b with
  | [.agg [.int .i64 f, .sl 0 0 0 2 n none], .int .i64 t], [.rows [.int .i64, .int .i64] rs] => .need (decide (n = rs.length) && decide (n * 16 ≤ 140737488351232) && !(goodT f (lps rs) && !farB t && labB f (lps rs) t && labB f (lps rs) (t + 1))) (.leaf ⟨.bool true, [none], []⟩)
  | _, _ => .fail
theorem lwGoesE_ok : SpecOK P 8 lwGoesE := by
  refine specOK_fast goE_ok hm (Λ := loopsOf []) Tryd.func8 (by kernel_rfl) (LoopsOK.nil (by kernel_rfl)) ?_
  intro args bs r h
  unfold lwGoesE at h
  split at h
  · rename_i f n t rs
    rw [den_need, denLf] at h
    simp only [Bool.and_eq_true, decide_eq_true_eq, Bool.not_eq_true'] at h
    obtain ⟨⟨⟨h1, h2⟩, hc⟩, h⟩ := h
    cases h
    rw [show (fFn P (specsOf goE) (loopsOf []) Tryd.f8 [.agg [.int .i64 f, .sl 0 0 0 2 n none], .int .i64 t] [.rows lpK rs]).denN = Tree.denN (Tree.ite (decide (n = rs.length) && decide (n * 16 ≤ 140737488351232)) (Tree.ite (goodT f (lps rs)) (Tree.ite (decide (n = 0)) (Tree.ite (farB t) (Tree.leaf { v := V.tru, upd := [none], new := [] }) (Tree.ite (goodT f []) (Tree.ite (decide (t ≤ 9000000000000000000)) (Tree.ite (labB f [] t) (Tree.ite (goodT f []) (Tree.ite (decide (IntKind.i64.wrap (t + 1) ≤ 9000000000000000000)) (Tree.ite (labB f [] (IntKind.i64.wrap (t + 1))) Tree.fail (Tree.leaf { v := V.tru, upd := [none], new := [] })) Tree.fail) Tree.fail) (Tree.ite (goodT f []) (Tree.ite (decide (IntKind.i64.wrap (t + 1) ≤ 9000000000000000000)) (Tree.ite (labB f [] (IntKind.i64.wrap (t + 1))) (Tree.leaf { v := V.tru, upd := [none], new := [] }) (Tree.leaf { v := V.tru, upd := [none], new := [] })) Tree.fail) Tree.fail)) Tree.fail) Tree.fail)) (Tree.ite (farB t) (Tree.leaf { v := V.tru, upd := [none], new := [] }) (Tree.ite (okTA n (n + 1) n f (lpRows (lps rs)) (offsF f (lps rs)) (stF f (lps rs))) (Tree.ite (decide (t ≤ 9000000000000000000)) (Tree.ite (labB f (lps (lpRows (lps rs))) t) (Tree.ite (okTA n (n + 1) n f (lpRows (lps rs)) (offsF f (lps rs)) (stF f (lps rs))) (Tree.ite (decide (IntKind.i64.wrap (t + 1) ≤ 9000000000000000000)) (Tree.ite (labB f (lps (lpRows (lps rs))) (IntKind.i64.wrap (t + 1))) Tree.fail (Tree.leaf { v := V.tru, upd := [none], new := [] })) Tree.fail) Tree.fail) (Tree.ite (okTA n (n + 1) n f (lpRows (lps rs)) (offsF f (lps rs)) (stF f (lps rs))) (Tree.ite (decide (IntKind.i64.wrap (t + 1) ≤ 9000000000000000000)) (Tree.ite (labB f (lps (lpRows (lps rs))) (IntKind.i64.wrap (t + 1))) (Tree.leaf { v := V.tru, upd := [none], new := [] }) (Tree.leaf { v := V.tru, upd := [none], new := [] })) Tree.fail) Tree.fail)) Tree.fail) Tree.fail))) (Tree.leaf { v := V.tru, upd := [none], new := [] })) Tree.fail) from by kernel_rfl]
    simp only [denN_ite, denN_leaf, denN_fail, decide_eq_true h1, decide_eq_true h2, lps_rows]
    cases hg : goodT f (lps rs) with
    | false => rfl
    | true =>
      cases hf : farB t with
      | true =>
        by_cases h0 : n = 0
        · simp only [decide_eq_true h0]; rfl
        · simp only [decide_eq_false h0]; rfl
      | false =>
        have hf' := hf
        simp only [farB, Bool.or_eq_false_iff, decide_eq_false_iff_not] at hf'
        rw [wrap64_id (n := t + 1) (by omega) (by omega), decide_eq_true (show t ≤ 9000000000000000000 by omega), decide_eq_true (show t + 1 ≤ 9000000000000000000 by omega)]
        rw [hg, hf] at hc
        by_cases h0 : n = 0
        · have e : lps rs = [] := lps_nil (by omega)
          rw [e] at hg hc ⊢
          simp only [decide_eq_true h0, hg]
          cases q1 : labB f [] t <;> cases q2 : labB f [] (t + 1) <;> rw [q1, q2] at hc <;> first | rfl | cases hc
        · simp only [decide_eq_false h0, okTA_lp hg h1 h0]
          cases q1 : labB f (lps rs) t <;> cases q2 : labB f (lps rs) (t + 1) <;> rw [q1, q2] at hc <;> first | rfl | cases hc
  · simp [den_fail] at h
def lwGoesA : Rx.Spec := fun a b => match a, b with
  | [.agg [.int .i64 f, .sl 0 0 0 2 n none], .int .i64 t], [.rows [.int .i64, .int .i64] rs] => .need (decide (n = rs.length) && decide (n * 16 ≤ 140737488351232) && goodT f (lps rs) && !farB t && labB f (lps rs) t && labB f (lps rs) (t + 1) && decide (n ≠ 0)) (.leaf ⟨.bool true, [none], []⟩)
  | _, _ => .fail
theorem lwGoesA_ok : SpecOK P 8 lwGoesA := by
  refine specOK_fast goA_ok hm (Λ := loopsOf []) Tryd.func8 (by kernel_rfl) (LoopsOK.nil (by kernel_rfl)) ?_
  intro args bs r h
  unfold lwGoesA at h
  split at h
  · rename_i f n t rs
    rw [den_need, denLf] at h
    simp only [Bool.and_eq_true, decide_eq_true_eq, Bool.not_eq_true'] at h
    obtain ⟨⟨⟨⟨⟨⟨⟨h1, h2⟩, hg⟩, hf⟩, hl⟩, hm⟩, h0⟩, h⟩ := h
    cases h
    rw [show (fFn P (specsOf goA) (loopsOf []) Tryd.f8 [.agg [.int .i64 f, .sl 0 0 0 2 n none], .int .i64 t] [.rows lpK rs]).denN = Tree.denN (Tree.ite (decide (n = rs.length) && decide (n * 16 ≤ 140737488351232) && goodT f (lps rs) && decide (n ≠ 0)) (Tree.ite (!farB t) (Tree.ite (okTA n (n + 1) n f (lpRows (lps rs)) (offsF f (lps rs)) (stF f (lps rs))) (Tree.ite (decide (t ≤ 9000000000000000000) && labB f (lps (lpRows (lps rs))) t) (Tree.ite (okTA n (n + 1) n f (lpRows (lps rs)) (offsF f (lps rs)) (stF f (lps rs))) (Tree.ite (decide (IntKind.i64.wrap (t + 1) ≤ 9000000000000000000) && labB f (lps (lpRows (lps rs))) (IntKind.i64.wrap (t + 1))) (Tree.ite (okTA n (n + 1) n f (lpRows (lps rs)) (offsF f (lps rs)) (stF f (lps rs))) (Tree.ite (taiB f (lps (lpRows (lps rs))) (labL f (lps (lpRows (lps rs))) t)) (Tree.ite (rightZ (labL f (lps (lpRows (lps rs))) t)) (Tree.ite (rightZ (labL f (lps (lpRows (lps rs))) (IntKind.i64.wrap (t + 1)))) (Tree.ite (secZ (labL f (lps (lpRows (lps rs))) (IntKind.i64.wrap (t + 1))) == IntKind.i64.wrap (secZ (labL f (lps (lpRows (lps rs))) t) + 1)) (Tree.ite (taiZ f (lps (lpRows (lps rs))) (labL f (lps (lpRows (lps rs))) t) == t) (Tree.ite (lessZ (labL f (lps (lpRows (lps rs))) t) (labL f (lps (lpRows (lps rs))) (IntKind.i64.wrap (t + 1)))) (Tree.leaf { v := V.tru, upd := [none], new := [] }) (Tree.leaf { v := V.fls, upd := [none], new := [] })) (Tree.leaf { v := V.fls, upd := [none], new := [] })) (Tree.ite (secZ (labL f (lps (lpRows (lps rs))) (IntKind.i64.wrap (t + 1))) == secZ (labL f (lps (lpRows (lps rs))) t)) (Tree.ite ((labL f (lps (lpRows (lps rs))) t).6 == 60) (Tree.ite (taiZ f (lps (lpRows (lps rs))) (labL f (lps (lpRows (lps rs))) t) == t) (Tree.ite (lessZ (labL f (lps (lpRows (lps rs))) t) (labL f (lps (lpRows (lps rs))) (IntKind.i64.wrap (t + 1)))) (Tree.leaf { v := V.tru, upd := [none], new := [] }) (Tree.leaf { v := V.fls, upd := [none], new := [] })) (Tree.leaf { v := V.fls, upd := [none], new := [] })) (Tree.ite (secZ (labL f (lps (lpRows (lps rs))) (IntKind.i64.wrap (t + 1))) == IntKind.i64.wrap (secZ (labL f (lps (lpRows (lps rs))) t) + 2)) (Tree.ite ((labL f (lps (lpRows (lps rs))) (IntKind.i64.wrap (t + 1))).4 == 0) (Tree.ite ((labL f (lps (lpRows (lps rs))) (IntKind.i64.wrap (t + 1))).5 == 0) (Tree.ite (taiZ f (lps (lpRows (lps rs))) (labL f (lps (lpRows (lps rs))) t) == t) (Tree.ite (lessZ (labL f (lps (lpRows (lps rs))) t) (labL f (lps (lpRows (lps rs))) (IntKind.i64.wrap (t + 1)))) (Tree.leaf { v := V.bool ((labL f (lps (lpRows (lps rs))) (IntKind.i64.wrap (t + 1))).6 == 0), upd := [none], new := [] }) (Tree.leaf { v := V.fls, upd := [none], new := [] })) (Tree.leaf { v := V.fls, upd := [none], new := [] })) (Tree.ite (taiZ f (lps (lpRows (lps rs))) (labL f (lps (lpRows (lps rs))) t) == t) (Tree.ite (lessZ (labL f (lps (lpRows (lps rs))) t) (labL f (lps (lpRows (lps rs))) (IntKind.i64.wrap (t + 1)))) (Tree.leaf { v := V.fls, upd := [none], new := [] }) (Tree.leaf { v := V.fls, upd := [none], new := [] })) (Tree.leaf { v := V.fls, upd := [none], new := [] }))) (Tree.ite (taiZ f (lps (lpRows (lps rs))) (labL f (lps (lpRows (lps rs))) t) == t) (Tree.ite (lessZ (labL f (lps (lpRows (lps rs))) t) (labL f (lps (lpRows (lps rs))) (IntKind.i64.wrap (t + 1)))) (Tree.leaf { v := V.fls, upd := [none], new := [] }) (Tree.leaf { v := V.fls, upd := [none], new := [] })) (Tree.leaf { v := V.fls, upd := [none], new := [] }))) (Tree.ite (taiZ f (lps (lpRows (lps rs))) (labL f (lps (lpRows (lps rs))) t) == t) (Tree.ite (lessZ (labL f (lps (lpRows (lps rs))) t) (labL f (lps (lpRows (lps rs))) (IntKind.i64.wrap (t + 1)))) (Tree.leaf { v := V.fls, upd := [none], new := [] }) (Tree.leaf { v := V.fls, upd := [none], new := [] })) (Tree.leaf { v := V.fls, upd := [none], new := [] })))) (Tree.ite (secZ (labL f (lps (lpRows (lps rs))) (IntKind.i64.wrap (t + 1))) == IntKind.i64.wrap (secZ (labL f (lps (lpRows (lps rs))) t) + 2)) (Tree.ite ((labL f (lps (lpRows (lps rs))) (IntKind.i64.wrap (t + 1))).4 == 0) (Tree.ite ((labL f (lps (lpRows (lps rs))) (IntKind.i64.wrap (t + 1))).5 == 0) (Tree.ite (taiZ f (lps (lpRows (lps rs))) (labL f (lps (lpRows (lps rs))) t) == t) (Tree.ite (lessZ (labL f (lps (lpRows (lps rs))) t) (labL f (lps (lpRows (lps rs))) (IntKind.i64.wrap (t + 1)))) (Tree.leaf { v := V.bool ((labL f (lps (lpRows (lps rs))) (IntKind.i64.wrap (t + 1))).6 == 0), upd := [none], new := [] }) (Tree.leaf { v := V.fls, upd := [none], new := [] })) (Tree.leaf { v := V.fls, upd := [none], new := [] })) (Tree.ite (taiZ f (lps (lpRows (lps rs))) (labL f (lps (lpRows (lps rs))) t) == t) (Tree.ite (lessZ (labL f (lps (lpRows (lps rs))) t) (labL f (lps (lpRows (lps rs))) (IntKind.i64.wrap (t + 1)))) (Tree.leaf { v := V.fls, upd := [none], new := [] }) (Tree.leaf { v := V.fls, upd := [none], new := [] })) (Tree.leaf { v := V.fls, upd := [none], new := [] }))) (Tree.ite (taiZ f (lps (lpRows (lps rs))) (labL f (lps (lpRows (lps rs))) t) == t) (Tree.ite (lessZ (labL f (lps (lpRows (lps rs))) t) (labL f (lps (lpRows (lps rs))) (IntKind.i64.wrap (t + 1)))) (Tree.leaf { v := V.fls, upd := [none], new := [] }) (Tree.leaf { v := V.fls, upd := [none], new := [] })) (Tree.leaf { v := V.fls, upd := [none], new := [] }))) (Tree.ite (taiZ f (lps (lpRows (lps rs))) (labL f (lps (lpRows (lps rs))) t) == t) (Tree.ite (lessZ (labL f (lps (lpRows (lps rs))) t) (labL f (lps (lpRows (lps rs))) (IntKind.i64.wrap (t + 1)))) (Tree.leaf { v := V.fls, upd := [none], new := [] }) (Tree.leaf { v := V.fls, upd := [none], new := [] })) (Tree.leaf { v := V.fls, upd := [none], new := [] }))))) Tree.fail) Tree.fail) Tree.fail) Tree.fail) Tree.fail) Tree.fail) Tree.fail) Tree.fail) Tree.fail) Tree.fail) from by kernel_rfl]
    have hf' := hf
    simp only [farB, Bool.or_eq_false_iff, decide_eq_false_iff_not] at hf'
    rw [wrap64_id (n := t + 1) (by omega) (by omega), decide_eq_true (show t ≤ 9000000000000000000 by omega), decide_eq_true (show t + 1 ≤ 9000000000000000000 by omega)]
    obtain ⟨t1, t2, t3⟩ := tai_own hg hl rfl
    obtain ⟨l1, l2, l3, l4⟩ := lab_right hg hl
    obtain ⟨m1, m2, m3, m4⟩ := lab_right hg hm
    obtain ⟨w1, w2⟩ := goes hg hl hm
    have hbd := look_bd t (lps rs) f
    obtain ⟨g1, g2, g3, g4⟩ := goodT_iff.1 hg
    rw [lps_rows, wrap64_id (n := secZ (labL f (lps rs) t) + 1) (by omega) (by omega), wrap64_id (n := secZ (labL f (lps rs) t) + 2) (by omega) (by omega)]
    simp only [denN_ite, denN_leaf, denN_fail, decide_eq_true h1, decide_eq_true h2, hg, hf, hl, hm, decide_eq_true h0, okTA_lp hg h1 h0, t1, t2, l1, m1, w1, beq_self_eq_true]
    rcases w2 with w2 | ⟨w2, w3⟩ | ⟨w2, w3, w4, w5⟩
    · rw [w2, beq_self_eq_true]; rfl
    · rw [w2, w3, show (secZ (labL f (lps rs) t) == secZ (labL f (lps rs) t) + 1) = false from beq_eq_false_iff_ne.2 (by omega), beq_self_eq_true]; rfl
    · rw [w2, w3, w4, w5, show (secZ (labL f (lps rs) t) + 2 == secZ (labL f (lps rs) t) + 1) = false from beq_eq_false_iff_ne.2 (by omega), show (secZ (labL f (lps rs) t) + 2 == secZ (labL f (lps rs) t)) = false from beq_eq_false_iff_ne.2 (by omega), beq_self_eq_true]; rfl
  · simp [den_fail] at h
def lwGoesN : Rx.Spec := fun a b => match a, b with
  | [.agg [.int .i64 f, .sl 0 0 0 2 n none], .int .i64 t], [.rows [.int .i64, .int .i64] rs] => .need (decide (n = rs.length) && goodT f [] && !farB t && labB f [] t && labB f [] (t + 1) && decide (n = 0)) (.leaf ⟨.bool true, [none], []⟩)
  | _, _ => .fail
theorem lwGoesN_ok : SpecOK P 8 lwGoesN := by
  refine specOK_fast goN_ok hm (Λ := loopsOf []) Tryd.func8 (by kernel_rfl) (LoopsOK.nil (by kernel_rfl)) ?_
  intro args bs r h
  unfold lwGoesN at h
  split at h
  · rename_i f n t rs
    rw [den_need, denLf] at h
    simp only [Bool.and_eq_true, decide_eq_true_eq, Bool.not_eq_true'] at h
    obtain ⟨⟨⟨⟨⟨⟨h1, hg⟩, hf⟩, hl⟩, hm⟩, h0⟩, h⟩ := h
    cases h
    rw [show (fFn P (specsOf goN) (loopsOf []) Tryd.f8 [.agg [.int .i64 f, .sl 0 0 0 2 n none], .int .i64 t] [.rows lpK rs]).denN = Tree.denN (Tree.ite (decide (n = rs.length) && goodT f [] && decide (n = 0)) (Tree.ite (!farB t) (Tree.ite (goodT f []) (Tree.ite (decide (t ≤ 9000000000000000000) && labB f [] t) (Tree.ite (goodT f []) (Tree.ite (decide (IntKind.i64.wrap (t + 1) ≤ 9000000000000000000) && labB f [] (IntKind.i64.wrap (t + 1))) (Tree.ite (goodT f []) (Tree.ite (taiB f [] (ofL (t - f))) (Tree.ite (rightZ (ofL (t - f))) (Tree.ite (rightZ (ofL (IntKind.i64.wrap (t + 1) - f))) (Tree.ite (secZ (ofL (IntKind.i64.wrap (t + 1) - f)) == IntKind.i64.wrap (secZ (ofL (t - f)) + 1)) (Tree.ite (taiZ f [] (ofL (t - f)) == t) (Tree.ite (lessZ (ofL (t - f)) (ofL (IntKind.i64.wrap (t + 1) - f))) (Tree.leaf { v := V.tru, upd := [none], new := [] }) (Tree.leaf { v := V.fls, upd := [none], new := [] })) (Tree.leaf { v := V.fls, upd := [none], new := [] })) (Tree.ite (secZ (ofL (IntKind.i64.wrap (t + 1) - f)) == secZ (ofL (t - f))) (Tree.ite ((t - f) % 60 == 60) (Tree.ite (taiZ f [] (ofL (t - f)) == t) (Tree.ite (lessZ (ofL (t - f)) (ofL (IntKind.i64.wrap (t + 1) - f))) (Tree.leaf { v := V.tru, upd := [none], new := [] }) (Tree.leaf { v := V.fls, upd := [none], new := [] })) (Tree.leaf { v := V.fls, upd := [none], new := [] })) (Tree.ite (secZ (ofL (IntKind.i64.wrap (t + 1) - f)) == IntKind.i64.wrap (secZ (ofL (t - f)) + 2)) (Tree.ite ((IntKind.i64.wrap (t + 1) - f) % 86400 / 3600 == 0) (Tree.ite ((IntKind.i64.wrap (t + 1) - f) % 3600 / 60 == 0) (Tree.ite (taiZ f [] (ofL (t - f)) == t) (Tree.ite (lessZ (ofL (t - f)) (ofL (IntKind.i64.wrap (t + 1) - f))) (Tree.leaf { v := V.bool ((IntKind.i64.wrap (t + 1) - f) % 60 == 0), upd := [none], new := [] }) (Tree.leaf { v := V.fls, upd := [none], new := [] })) (Tree.leaf { v := V.fls, upd := [none], new := [] })) (Tree.ite (taiZ f [] (ofL (t - f)) == t) (Tree.ite (lessZ (ofL (t - f)) (ofL (IntKind.i64.wrap (t + 1) - f))) (Tree.leaf { v := V.fls, upd := [none], new := [] }) (Tree.leaf { v := V.fls, upd := [none], new := [] })) (Tree.leaf { v := V.fls, upd := [none], new := [] }))) (Tree.ite (taiZ f [] (ofL (t - f)) == t) (Tree.ite (lessZ (ofL (t - f)) (ofL (IntKind.i64.wrap (t + 1) - f))) (Tree.leaf { v := V.fls, upd := [none], new := [] }) (Tree.leaf { v := V.fls, upd := [none], new := [] })) (Tree.leaf { v := V.fls, upd := [none], new := [] }))) (Tree.ite (taiZ f [] (ofL (t - f)) == t) (Tree.ite (lessZ (ofL (t - f)) (ofL (IntKind.i64.wrap (t + 1) - f))) (Tree.leaf { v := V.fls, upd := [none], new := [] }) (Tree.leaf { v := V.fls, upd := [none], new := [] })) (Tree.leaf { v := V.fls, upd := [none], new := [] })))) (Tree.ite (secZ (ofL (IntKind.i64.wrap (t + 1) - f)) == IntKind.i64.wrap (secZ (ofL (t - f)) + 2)) (Tree.ite ((IntKind.i64.wrap (t + 1) - f) % 86400 / 3600 == 0) (Tree.ite ((IntKind.i64.wrap (t + 1) - f) % 3600 / 60 == 0) (Tree.ite (taiZ f [] (ofL (t - f)) == t) (Tree.ite (lessZ (ofL (t - f)) (ofL (IntKind.i64.wrap (t + 1) - f))) (Tree.leaf { v := V.bool ((IntKind.i64.wrap (t + 1) - f) % 60 == 0), upd := [none], new := [] }) (Tree.leaf { v := V.fls, upd := [none], new := [] })) (Tree.leaf { v := V.fls, upd := [none], new := [] })) (Tree.ite (taiZ f [] (ofL (t - f)) == t) (Tree.ite (lessZ (ofL (t - f)) (ofL (IntKind.i64.wrap (t + 1) - f))) (Tree.leaf { v := V.fls, upd := [none], new := [] }) (Tree.leaf { v := V.fls, upd := [none], new := [] })) (Tree.leaf { v := V.fls, upd := [none], new := [] }))) (Tree.ite (taiZ f [] (ofL (t - f)) == t) (Tree.ite (lessZ (ofL (t - f)) (ofL (IntKind.i64.wrap (t + 1) - f))) (Tree.leaf { v := V.fls, upd := [none], new := [] }) (Tree.leaf { v := V.fls, upd := [none], new := [] })) (Tree.leaf { v := V.fls, upd := [none], new := [] }))) (Tree.ite (taiZ f [] (ofL (t - f)) == t) (Tree.ite (lessZ (ofL (t - f)) (ofL (IntKind.i64.wrap (t + 1) - f))) (Tree.leaf { v := V.fls, upd := [none], new := [] }) (Tree.leaf { v := V.fls, upd := [none], new := [] })) (Tree.leaf { v := V.fls, upd := [none], new := [] }))))) Tree.fail) Tree.fail) Tree.fail) Tree.fail) Tree.fail) Tree.fail) Tree.fail) Tree.fail) Tree.fail) Tree.fail) from by kernel_rfl]
    have hf' := hf
    simp only [farB, Bool.or_eq_false_iff, decide_eq_false_iff_not] at hf'
    rw [wrap64_id (n := t + 1) (by omega) (by omega), decide_eq_true (show t ≤ 9000000000000000000 by omega), decide_eq_true (show t + 1 ≤ 9000000000000000000 by omega)]
    obtain ⟨t1, t2, t3⟩ := tai_own hg hl rfl
    obtain ⟨l1, l2, l3, l4⟩ := lab_right hg hl
    obtain ⟨m1, m2, m3, m4⟩ := lab_right hg hm
    obtain ⟨w1, w2⟩ := goes hg hl hm
    have hbd := look_bd t [] f
    have eL : ∀ x, labL f [] x = ofL (x - f) := fun _ => rfl
    have eF : ∀ x, lookF f [] x = (f, none) := fun _ => rfl
    simp only [eL, eF] at t1 t2 l1 l2 m1 m2 w1 w2
    obtain ⟨g1, g2, g3, g4⟩ := goodT_iff.1 hg
    rw [wrap64_id (n := secZ (ofL (t - f)) + 1) (by omega) (by omega)]
    try rw [wrap64_id (n := secZ (ofL (t - f)) + 2) (by omega) (by omega)]
    simp only [denN_ite, denN_leaf, denN_fail, decide_eq_true h1, hg, hf, hl, hm, decide_eq_true h0, t1, t2, l1, m1, w1, beq_self_eq_true]
    have w2' : secZ (ofL (t + 1 - f)) = secZ (ofL (t - f)) + 1 := by omega
    rw [w2', beq_self_eq_true]; rfl
  · simp [den_fail] at h
def lwGoesS : Rx.Spec := fun a b => match a, b with
  | [.agg [.int .i64 f, .sl 0 0 0 2 n none], .int .i64 t], [.rows [.int .i64, .int .i64] rs] => .need (decide (n = rs.length) && decide (n * 16 ≤ 140737488351232)) (.leaf ⟨.bool true, [none], []⟩)
  | _, _ => .fail
theorem lwGoes_ok : SpecOK P 8 lwGoesS := by
  have h2 : SpecOK P 8 (fun a b => match a, b with
    | [.agg [.int .i64 f, .sl 0 0 0 2 n none], .int .i64 t], [.rows [.int .i64, .int .i64] rs] => .need (decide (n = rs.length) && decide (n * 16 ≤ 140737488351232) && goodT f (lps rs) && !farB t && labB f (lps rs) t && labB f (lps rs) (t + 1)) (.leaf ⟨.bool true, [none], []⟩)
    | _, _ => .fail) := by
    refine specOr lwGoesA_ok lwGoesN_ok fun args bs r h => ?_
    split at h
    · rename_i f n t rs
      rw [den_need, denLf] at h
      obtain ⟨hc, h⟩ := h
      have hc' := hc
      simp only [Bool.and_eq_true, decide_eq_true_eq, Bool.not_eq_true'] at hc
      obtain ⟨⟨⟨⟨⟨h1, h2⟩, hg⟩, hf⟩, hl⟩, hm⟩ := hc
      by_cases h0 : n = 0
      · right
        have e : lps rs = [] := lps_nil (by omega)
        rw [e] at hg hl hm
        show (Tree.need (decide (n = rs.length) && goodT f [] && !farB t && labB f [] t && labB f [] (t + 1) && decide (n = 0)) (.leaf _)).den = _
        rw [decide_eq_true h1, hg, hf, hl, hm, decide_eq_true h0]; exact h
      · left
        show (Tree.need (decide (n = rs.length) && decide (n * 16 ≤ 140737488351232) && goodT f (lps rs) && !farB t && labB f (lps rs) t && labB f (lps rs) (t + 1) && decide (n ≠ 0)) (.leaf _)).den = _
        rw [hc', decide_eq_true h0]; exact h
    · simp [den_fail] at h
  refine specOr lwGoesE_ok h2 fun args bs r h => ?_
  unfold lwGoesS at h
  split at h
  · rename_i f n t rs
    rw [den_need, denLf] at h
    obtain ⟨hc, h⟩ := h
    cases hx : (goodT f (lps rs) && !farB t && labB f (lps rs) t && labB f (lps rs) (t + 1)) with
    | false =>
      left
      show (Tree.need (decide (n = rs.length) && decide (n * 16 ≤ 140737488351232) && !(goodT f (lps rs) && !farB t && labB f (lps rs) t && labB f (lps rs) (t + 1))) (.leaf _)).den = _
      rw [hc, hx]; exact h
    | true =>
      right
      show (Tree.need (decide (n = rs.length) && decide (n * 16 ≤ 140737488351232) && goodT f (lps rs) && !farB t && labB f (lps rs) t && labB f (lps rs) (t + 1)) (.leaf _)).den = _
      rw [hc]
      simp only [Bool.and_eq_true, Bool.not_eq_true'] at hx
      obtain ⟨⟨⟨x1, x2⟩, x3⟩, x4⟩ := hx
      rw [x1, x2, x3, x4]; exact h
  · simp [den_fail] at h
end Go.Proofs.YtbfiaogmfjadeaaDoor

set_option maxRecDepth 100000
set_option linter.unusedSimpArgs false
set_option linter.unusedVariables false
namespace Go.Proofs.YtbfiaogmfjadeaaDoor
open Go.Rx
def startO (o : Int) (x : Lp) : Int := (x.day + 1) * 86400 + o - (if x.sign < 0 then 2 else 0)
def metG (t : Int) : List Lp → Int → Bool → Bool
  | [], _, m => m
  | x :: xs, o, m => metG t xs (o + x.sign) (m || (startO o x == t))
theorem metG_or (t : Int) : ∀ (ls : List Lp) (o : Int) (m : Bool), metG t ls o m = (m || metG t ls o false)
  | [], _, m => by simp [metG]
  | x :: xs, o, m => by
    simp only [metG]
    rw [metG_or t xs _ (m || (startO o x == t)), metG_or t xs _ (false || (startO o x == t))]
    cases m <;> simp
theorem metG_none (t : Int) : ∀ (ls : List Lp) (d o : Int), pre (some d) ls = ls.length → t < (d + 3) * 86400 + o - 2 → metG t ls o false = false
  | [], _, _, _, _ => rfl
  | x :: xs, d, o, hp, ht => by
    obtain ⟨h1, h2⟩ := pre_cons hp
    obtain ⟨a1, a2, a3, a4⟩ := okL_iff.1 h1
    have := a4 d rfl
    have hs : (startO o x == t) = false := by
      refine beq_eq_false_iff_ne.2 ?_
      unfold startO
      split <;> omega
    simp only [metG, hs, Bool.or_false]
    exact metG_none t xs x.day _ h2 (by omega)
theorem once (t : Int) : ∀ (ls : List Lp) (p : Option Int) (f : Int), pre p ls = ls.length → (metG t ls f false = true ↔ (lookF f ls (t + 1)).1 ≠ (lookF f ls t).1)
  | [], p, f, _ => by simp [metG, lookF]
  | x :: xs, p, f, hp => by
    obtain ⟨h1, h2⟩ := pre_cons hp
    obtain ⟨a1, a2, a3, a4⟩ := okL_iff.1 h1
    have em : metG t (x :: xs) f false = ((startO f x == t) || metG t xs (f + x.sign) false) := by
      simp only [metG, Bool.false_or]; rw [metG_or]
    rw [em]
    rcases a3 with a3 | a3
    · have es : startO f x = (x.day + 1) * 86400 + f := by unfold startO; rw [if_neg (by omega)]; omega
      by_cases c2 : t = (x.day + 1) * 86400 + f
      · have e : lookF f (x :: xs) t = (f, some x.day) := by rw [lookF, if_pos a3, if_pos c2]
        have e2 : lookF f (x :: xs) (t + 1) = (f + 1, none) := by rw [lookF, if_pos a3, if_neg (by omega), if_pos (by omega), look_head h2 (by omega)]
        rw [e, e2, es, show ((x.day + 1) * 86400 + f == t) = true by simpa using c2.symm]
        simp; omega
      · have hs : (startO f x == t) = false := beq_eq_false_iff_ne.2 (by omega)
        rw [hs, Bool.false_or, a3]
        by_cases c3 : t > (x.day + 1) * 86400 + f
        · have e : lookF f (x :: xs) t = lookF (f + 1) xs t := by rw [lookF, if_pos a3, if_neg c2, if_pos c3]
          have e2 : lookF f (x :: xs) (t + 1) = lookF (f + 1) xs (t + 1) := by rw [lookF, if_pos a3, if_neg (by omega), if_pos (by omega)]
          rw [e, e2]
          exact once t xs _ _ h2
        · have e : lookF f (x :: xs) t = (f, none) := by rw [lookF, if_pos a3, if_neg c2, if_neg c3]
          have e2 : (lookF f (x :: xs) (t + 1)).1 = f := by
            by_cases c4 : t + 1 = (x.day + 1) * 86400 + f
            · rw [lookF, if_pos a3, if_pos c4]
            · rw [lookF, if_pos a3, if_neg c4, if_neg (by omega)]
          rw [e, e2, metG_none t xs x.day _ h2 (by omega)]
          simp
    · have es : startO f x = (x.day + 1) * 86400 + f - 2 := by unfold startO; rw [if_pos (by omega)]
      by_cases c3 : t ≥ (x.day + 1) * 86400 - 1 + f
      · have e : lookF f (x :: xs) t = lookF (f - 1) xs t := by rw [lookF, if_neg (by omega), if_pos c3]
        have e2 : lookF f (x :: xs) (t + 1) = lookF (f - 1) xs (t + 1) := by rw [lookF, if_neg (by omega), if_pos (by omega)]
        have hs : (startO f x == t) = false := beq_eq_false_iff_ne.2 (by omega)
        rw [hs, Bool.false_or, a3, e, e2]
        exact once t xs _ _ h2
      · have e : lookF f (x :: xs) t = (f, none) := by rw [lookF, if_neg (by omega), if_neg c3]
        by_cases c4 : t + 1 = (x.day + 1) * 86400 - 1 + f
        · have e2 : lookF f (x :: xs) (t + 1) = (f - 1, none) := by rw [lookF, if_neg (by omega), if_pos (by omega), look_head h2 (by omega)]
          have hs : (startO f x == t) = true := by rw [beq_iff_eq]; omega
          rw [e, e2, hs]
          simp; omega
        · have e2 : lookF f (x :: xs) (t + 1) = (f, none) := by rw [lookF, if_neg (by omega), if_neg (by omega)]
          have hs : (startO f x == t) = false := beq_eq_false_iff_ne.2 (by omega)
          rw [e, e2, hs, metG_none t xs x.day _ h2 (by omega)]
          simp
def sumS (o : Int) : List Lp → Int
  | [] => o
  | x :: xs => sumS (o + x.sign) xs
def lastD (m : Int) : List Lp → Int
  | [] => m
  | x :: xs => lastD ((x.day + 1) * 86400) xs
theorem lastD_ge : ∀ (ls : List Lp) (d : Int), pre (some d) ls = ls.length → (d + 1) * 86400 ≤ lastD ((d + 1) * 86400) ls
  | [], _, _ => Int.le_refl _
  | x :: xs, d, hp => by
    obtain ⟨h1, h2⟩ := pre_cons hp
    obtain ⟨a1, a2, a3, a4⟩ := okL_iff.1 h1
    have := a4 d rfl
    have := lastD_ge xs x.day h2
    simp only [lastD]; omega
theorem many (t : Int) : ∀ (ls : List Lp) (p : Option Int) (f m : Int), pre p ls = ls.length → t ≥ lastD m ls + f + ls.length → (lookF f ls t).1 = sumS f ls
  | [], _, _, _, _, _ => rfl
  | x :: xs, p, f, m, hp, ht => by
    obtain ⟨h1, h2⟩ := pre_cons hp
    obtain ⟨a1, a2, a3, a4⟩ := okL_iff.1 h1
    have hl := lastD_ge xs x.day h2
    simp only [lastD, List.length_cons] at ht
    rcases a3 with a3 | a3
    · rw [lookF, if_pos a3, if_neg (by omega), if_pos (by omega), sumS, a3]
      exact many t xs _ _ ((x.day + 1) * 86400) h2 (by omega)
    · rw [lookF, if_neg (by omega), if_pos (by omega), sumS, a3]
      exact many t xs _ _ ((x.day + 1) * 86400) h2 (by omega)
theorem look_neg {f : Int} {ls : List Lp} (hg : goodT f ls = true) : (lookF f ls (-1)).1 = f := by
  obtain ⟨g1, g2, g3, g4⟩ := goodT_iff.1 hg
  cases ls with
  | nil => rfl
  | cons x xs =>
    obtain ⟨h1, h2⟩ := pre_cons g4
    obtain ⟨a1, a2, a3, a4⟩ := okL_iff.1 h1
    rcases a3 with a3 | a3
    · rw [lookF, if_pos a3, if_neg (by omega), if_neg (by omega)]
    · rw [lookF, if_neg (by omega), if_neg (by omega)]
theorem sumS_bd : ∀ (ls : List Lp) (p : Option Int) (f : Int), pre p ls = ls.length → f - ls.length ≤ sumS f ls ∧ sumS f ls ≤ f + ls.length
  | [], _, f, _ => by simp [sumS]
  | x :: xs, p, f, hp => by
    obtain ⟨h1, h2⟩ := pre_cons hp
    obtain ⟨a1, a2, a3, a4⟩ := okL_iff.1 h1
    have := sumS_bd xs _ (f + x.sign) h2
    simp only [sumS, List.length_cons]; omega
theorem lastD_bd : ∀ (ls : List Lp) (p : Option Int) (m : Int), pre p ls = ls.length → 0 ≤ m → m ≤ 300000000000 → 0 ≤ lastD m ls ∧ lastD m ls ≤ 300000000000
  | [], _, f, _, h1, h2 => ⟨h1, h2⟩
  | x :: xs, p, f, hp, _, _ => by
    obtain ⟨h1, h2⟩ := pre_cons hp
    obtain ⟨a1, a2, a3, a4⟩ := okL_iff.1 h1
    exact lastD_bd xs _ _ h2 (by omega) (by omega)
end Go.Proofs.YtbfiaogmfjadeaaDoor

set_option maxRecDepth 100000
set_option linter.unusedSimpArgs false
set_option linter.unusedVariables false
namespace Go.Proofs.YtbfiaogmfjadeaaDoor
open Go.Rx
theorem on_round (n : Nat) (t A B N k o : Int) (m : Bool) (rs : List (List V)) : (evRound P (specsOf []) (loopsOf []) 84 [1, 7, 8, 9, 10, 36, 37, 38] [9] (loopAt Tryd.f4 0) [.int .i64 t, .int .i64 A, .int .i64 B, .bool m, .int .i64 o, .sl 0 0 0 2 n none, .int .i64 N, .int .i64 k] [.rows lpK rs]).den = Tree.den (Tree.ite (decide (k < N)) (Tree.ite (decide (0 ≤ k) && decide (k < (↑n : Int))) (Tree.ite (decide (0 + k.toNat < rs.length)) (Tree.ite (decide ((V.toInt ((rs.getD (0 + k.toNat) []).getD 1 V.any)) < 0)) (Tree.ite m (Tree.leaf { e := Ex.nrm, vs := [V.int IntKind.i64 t, V.int IntKind.i64 A, V.int IntKind.i64 B, V.tru, V.int IntKind.i64 (IntKind.i64.wrap (o + (V.toInt ((rs.getD (0 + k.toNat) []).getD 1 V.any)))), V.sl 0 0 0 2 n none, V.int IntKind.i64 N, V.int IntKind.i64 (IntKind.i64.wrap (k + 1))], upd := [none], new := [] }) (Tree.leaf { e := Ex.nrm, vs := [V.int IntKind.i64 t, V.int IntKind.i64 A, V.int IntKind.i64 B, V.bool (IntKind.i64.wrap (IntKind.i64.wrap (IntKind.i64.wrap (IntKind.i64.wrap ((V.toInt ((rs.getD (0 + k.toNat) []).getD 0 V.any)) + 1) * 86400) + o) - 2) == t), V.int IntKind.i64 (IntKind.i64.wrap (o + (V.toInt ((rs.getD (0 + k.toNat) []).getD 1 V.any)))), V.sl 0 0 0 2 n none, V.int IntKind.i64 N, V.int IntKind.i64 (IntKind.i64.wrap (k + 1))], upd := [none], new := [] })) (Tree.ite m (Tree.leaf { e := Ex.nrm, vs := [V.int IntKind.i64 t, V.int IntKind.i64 A, V.int IntKind.i64 B, V.tru, V.int IntKind.i64 (IntKind.i64.wrap (o + (V.toInt ((rs.getD (0 + k.toNat) []).getD 1 V.any)))), V.sl 0 0 0 2 n none, V.int IntKind.i64 N, V.int IntKind.i64 (IntKind.i64.wrap (k + 1))], upd := [none], new := [] }) (Tree.leaf { e := Ex.nrm, vs := [V.int IntKind.i64 t, V.int IntKind.i64 A, V.int IntKind.i64 B, V.bool (IntKind.i64.wrap (IntKind.i64.wrap (IntKind.i64.wrap ((V.toInt ((rs.getD (0 + k.toNat) []).getD 0 V.any)) + 1) * 86400) + o) == t), V.int IntKind.i64 (IntKind.i64.wrap (o + (V.toInt ((rs.getD (0 + k.toNat) []).getD 1 V.any)))), V.sl 0 0 0 2 n none, V.int IntKind.i64 N, V.int IntKind.i64 (IntKind.i64.wrap (k + 1))], upd := [none], new := [] }))) Tree.fail) Tree.fail) (Tree.leaf { e := Ex.exit 0, vs := [V.bool m], upd := [none], new := [] })) := by
  kernel_rfl
theorem on_all {n : Nat} {t A B : Int} {rs : List (List V)} (hn : n = rs.length) (hn2 : n ≤ 1000000) : ∀ (rest : List Lp) (k : Nat) (p : Option Int) (o : Int) (m : Bool), (lps rs).drop k = rest → k + rest.length = n → pre p rest = rest.length → -2000000 ≤ o - rest.length → o + rest.length ≤ 2000000 →
    loopM P (specsOf []) (loopsOf []) 84 [1, 7, 8, 9, 10, 36, 37, 38] [9] (loopAt Tryd.f4 0) (rest.length + 1) [.int .i64 t, .int .i64 A, .int .i64 B, .bool m, .int .i64 o, .sl 0 0 0 2 n none, .int .i64 n, .int .i64 k] [.rows lpK rs] = some ⟨.exit 0, [.bool (metG t rest o m)], [none], []⟩ := by
  intro rest
  induction rest with
  | nil =>
    intro k p o m hr hk _ _ _
    have hx := on_round n t A B n k o m rs
    rw [decide_eq_false (show ¬ (k : Int) < (n : Int) by simp at hk; omega)] at hx
    exact loopM_end hx (by show Ex.exit 0 ≠ Ex.nrm; decide) rfl
  | cons x xs ih =>
    intro k p o m hr hk hp ho1 ho2
    simp only [List.length_cons] at hk ho1 ho2
    obtain ⟨hx, hd⟩ := drop_get hr
    rw [lps_get] at hx
    obtain ⟨hg, hp'⟩ := pre_cons hp
    obtain ⟨d1, d2, d3, d4⟩ := okL_iff.1 hg
    have e1 : V.toInt ((rs.getD k []).getD 0 V.any) = x.day := by rw [← hx]; rfl
    have e2 : V.toInt ((rs.getD k []).getD 1 V.any) = x.sign := by rw [← hx]; rfl
    have st := on_round n t A B n k o m rs
    have w1 : IntKind.i64.wrap (x.day + 1) = x.day + 1 := wrap64_id (by omega) (by omega)
    have w2 : IntKind.i64.wrap ((x.day + 1) * 86400) = (x.day + 1) * 86400 := wrap64_id (by omega) (by omega)
    have w3 : IntKind.i64.wrap ((x.day + 1) * 86400 + o) = (x.day + 1) * 86400 + o := wrap64_id (by omega) (by omega)
    have w5 : IntKind.i64.wrap ((x.day + 1) * 86400 + o - 2) = (x.day + 1) * 86400 + o - 2 := wrap64_id (by omega) (by omega)
    have w6 : IntKind.i64.wrap ((k : Int) + 1) = ((k + 1 : Nat) : Int) := by rw [wrap64_id (by omega) (by omega)]; omega
    have w7 : IntKind.i64.wrap (o + x.sign) = o + x.sign := wrap64_id (by omega) (by omega)
    simp only [Nat.zero_add, Int.toNat_natCast, e1, e2, w1, w2, w3, w5, w6, w7] at st
    rw [decide_eq_true (show (k : Int) < (n : Int) by omega), decide_eq_true (show (0 : Int) ≤ k by omega), decide_eq_true (show k < rs.length by omega)] at st
    have ih' := ih (k + 1) _ (o + x.sign) (m || (startO o x == t)) hd (by omega) hp' (by omega) (by omega)
    have em : metG t (x :: xs) o m = metG t xs (o + x.sign) (m || (startO o x == t)) := rfl
    rw [em]
    by_cases hs : x.sign < 0
    · have es : startO o x = (x.day + 1) * 86400 + o - 2 := by unfold startO; rw [if_pos hs]
      rw [es] at ih' ⊢
      rw [decide_eq_true hs] at st
      generalize ((x.day + 1) * 86400 + o - 2 == t) = E at st ih' ⊢
      cases m
      all_goals (refine loopM_step st rfl (by kernel_rfl) (by kernel_rfl) (by kernel_rfl) ih' ?_; (show ((seqAfter _ _ _).den).map nrmL = some _; kernel_rfl))
    · have es : startO o x = (x.day + 1) * 86400 + o := by unfold startO; rw [if_neg hs]; omega
      rw [es] at ih' ⊢
      rw [decide_eq_false hs] at st
      generalize ((x.day + 1) * 86400 + o == t) = E at st ih' ⊢
      cases m
      all_goals (refine loopM_step st rfl (by kernel_rfl) (by kernel_rfl) (by kernel_rfl) ih' ?_; (show ((seqAfter _ _ _).den).map nrmL = some _; kernel_rfl))
def onF (vals : List V) (bs : List Blk) : Tree LRes := match vals, bs with
  | [.int .i64 t, .int .i64 A, .int .i64 B, .bool false, .int .i64 o, .sl 0 0 0 2 n none, .int .i64 N, .int .i64 k], [.rows [.int .i64, .int .i64] rs] =>
    .need (decide (n = rs.length) && decide (N = n) && decide (k = 0) && goodT o (lps rs)) (.leaf ⟨.exit 0, [.bool (metG t (lps rs) o false)], [none], []⟩)
  | _, _ => .fail
def onL : LSpec := ⟨84, [1, 7, 8, 9, 10, 36, 37, 38], [9], onF⟩
theorem on_loop : LoopOK P (loopAt Tryd.f4 0) onL.nz := by
  refine loop_okM (GammaOK.nil P) Go.Proofs.YtbfiaogmfjadeaaDoor.hm (Λ := loopsOf []) (LoopsOK.nil (by kernel_rfl)) _ ?_
  intro vals bs r h
  simp only [onL, onF] at h
  split at h
  · rename_i t A B o n N k rs
    rw [den_need, denLf] at h
    simp only [Bool.and_eq_true, decide_eq_true_eq] at h
    obtain ⟨⟨⟨⟨h1, rfl⟩, rfl⟩, hg⟩, h⟩ := h
    obtain ⟨g1, g2, g3, g4⟩ := goodT_iff.1 hg
    have hll := lps_len rs
    have := on_all (t := t) (A := A) (B := B) h1 (by omega) (lps rs) 0 none o false rfl (by omega) g4 (by omega) (by omega)
    exact ⟨(lps rs).length + 1, this.trans (by cases h; rfl)⟩
  · simp [den_fail] at h
def lwOnceS : Rx.Spec := fun a b => match a, b with
  | [.agg [.int .i64 f, .sl 0 0 0 2 n none], .int .i64 t], [.rows [.int .i64, .int .i64] rs] => .need (decide (n = rs.length) && decide (n * 16 ≤ 140737488351232)) (.leaf ⟨.bool true, [none], []⟩)
  | _, _ => .fail
abbrev onG : List (Nat × Rx.Spec) := [kpE, (11, mkS), (13, farS), (14, alT), (18, offS)]
theorem onG_ok : GammaOK P onG := .cons keep_ok (.cons mk_ok (.cons far_ok (.cons alT_ok (.cons off_ok (.nil P)))))
theorem lwOnce_ok : SpecOK P 4 lwOnceS := by
  refine specOK_fast onG_ok hm (Λ := loopsOf [(8, onL.nz)]) Tryd.func4 (by kernel_rfl) (LoopsOK.one (by kernel_rfl) on_loop) ?_
  intro args bs r h
  unfold lwOnceS at h
  split at h
  · rename_i f n t rs
    rw [den_need, denLf] at h
    simp only [Bool.and_eq_true, decide_eq_true_eq] at h
    obtain ⟨⟨h1, h2⟩, h⟩ := h
    cases h
    rw [show (fFn P (specsOf onG) (loopsOf [(8, onL.nz)]) Tryd.f4 [.agg [.int .i64 f, .sl 0 0 0 2 n none], .int .i64 t] [.rows lpK rs]).denN = Tree.denN (Tree.ite (decide (n = rs.length) && decide (n * 16 ≤ 140737488351232)) (Tree.ite (goodT f (lps rs)) (Tree.ite (decide (n = 0)) (Tree.ite (farB t) (Tree.leaf { v := V.tru, upd := [none], new := [] }) (Tree.ite (goodT f []) (Tree.ite (goodT f []) (Tree.ite (decide (n = rs.length) && decide ((↑n : Int) = (↑n : Int)) && true && goodT f (lps rs)) (Tree.ite ((f != f) == metG t (lps rs) f false) (Tree.ite (decide (IntKind.i64.wrap (f - f) ≥ -1)) (Tree.leaf { v := V.bool (decide (IntKind.i64.wrap (f - f) ≤ 1)), upd := [none], new := [] }) (Tree.leaf { v := V.fls, upd := [none], new := [] })) (Tree.leaf { v := V.fls, upd := [none], new := [] })) Tree.fail) Tree.fail) Tree.fail)) (Tree.ite (farB t) (Tree.leaf { v := V.tru, upd := [none], new := [] }) (Tree.ite (okTA n (n + 1) n f (lpRows (lps rs)) (offsF f (lps rs)) (stF f (lps rs))) (Tree.ite (okTA n (n + 1) n f (lpRows (lps rs)) (offsF f (lps rs)) (stF f (lps rs))) (Tree.ite (decide (n = rs.length) && decide ((↑n : Int) = (↑n : Int)) && true && goodT f (lps rs)) (Tree.ite (((lookF f (lps (lpRows (lps rs))) t).fst != (lookF f (lps (lpRows (lps rs))) (IntKind.i64.wrap (t + 1))).fst) == metG t (lps rs) f false) (Tree.ite (decide (IntKind.i64.wrap ((lookF f (lps (lpRows (lps rs))) (IntKind.i64.wrap (t + 1))).fst - (lookF f (lps (lpRows (lps rs))) t).fst) ≥ -1)) (Tree.leaf { v := V.bool (decide (IntKind.i64.wrap ((lookF f (lps (lpRows (lps rs))) (IntKind.i64.wrap (t + 1))).fst - (lookF f (lps (lpRows (lps rs))) t).fst) ≤ 1)), upd := [none], new := [] }) (Tree.leaf { v := V.fls, upd := [none], new := [] })) (Tree.leaf { v := V.fls, upd := [none], new := [] })) Tree.fail) Tree.fail) Tree.fail))) (Tree.leaf { v := V.tru, upd := [none], new := [] })) Tree.fail) from by kernel_rfl]
    simp only [denN_ite, denN_leaf, denN_fail, decide_eq_true h1, decide_eq_true h2, lps_rows, decide_true]
    cases hg : goodT f (lps rs) with
    | false => rfl
    | true =>
      obtain ⟨g1, g2, g3, g4⟩ := goodT_iff.1 hg
      cases hf : farB t with
      | true =>
        by_cases h0 : n = 0
        · simp only [decide_eq_true h0]; rfl
        · simp only [decide_eq_false h0]; rfl
      | false =>
        simp only [farB, Bool.or_eq_false_iff, decide_eq_false_iff_not] at hf
        rw [wrap64_id (n := t + 1) (by omega) (by omega)]
        have ho := once t (lps rs) none f g4
        by_cases h0 : n = 0
        · have e : lps rs = [] := lps_nil (by omega)
          rw [e] at hg ⊢
          have w : IntKind.i64.wrap (f - f) = 0 := by rw [Int.sub_self]; rfl
          simp only [decide_eq_true h0, hg, w, metG, bne_self_eq_false]
          rfl
        · simp only [decide_eq_false h0, okTA_lp hg h1 h0]
          have hb := look_next t (lps rs) none f g4
          have hbd := look_bd t (lps rs) f
          have hbd2 := look_bd (t + 1) (lps rs) f
          have w : IntKind.i64.wrap ((lookF f (lps rs) (t + 1)).1 - (lookF f (lps rs) t).1) = (lookF f (lps rs) (t + 1)).1 - (lookF f (lps rs) t).1 := wrap64_id (by omega) (by omega)
          have e1 : (((lookF f (lps rs) t).1 != (lookF f (lps rs) (t + 1)).1) == metG t (lps rs) f false) = true := by
            cases hm : metG t (lps rs) f false with
            | true => have := ho.1 hm; simp; exact fun h => this h.symm
            | false =>
              have : ¬ (lookF f (lps rs) (t + 1)).1 ≠ (lookF f (lps rs) t).1 := fun h => by have := ho.2 h; rw [hm] at this; cases this
              simp; omega
          rw [w, e1, decide_eq_true (show (lookF f (lps rs) (t + 1)).1 - (lookF f (lps rs) t).1 ≥ -1 by omega), decide_eq_true (show (lookF f (lps rs) (t + 1)).1 - (lookF f (lps rs) t).1 ≤ 1 by omega)]
          rfl
  · simp [den_fail] at h
/-! ### LeapMany -/
theorem mn_round (n : Nat) (w N k o l : Int) (rs qs : List (List V)) (os ss : List Int) (a b c : Nat) (f : Int) : (evRound P (specsOf []) (loopsOf []) 66 [1, 2, 5, 7, 8, 30, 31, 32] [7, 8] (loopAt Tryd.f6 0) [.int .i64 w, .ptr 0 0 0 0, .ptr 1 0 0 0, .int .i64 o, .int .i64 l, .sl 2 0 0 2 n none, .int .i64 N, .int .i64 k] [.cells [.int .i64 f, .sl 2 0 0 2 n none], .cells [.sl 3 0 0 2 a none, .sl 4 0 0 1 b none, .sl 5 0 0 1 c none], .rows lpK rs, .rows lpK qs, .ints .i64 os, .ints .i64 ss]).den = Tree.den (Tree.ite (decide (k < N)) (Tree.ite (decide (0 ≤ k) && decide (k < (↑n : Int))) (Tree.ite (decide (0 + k.toNat < rs.length)) (Tree.leaf { e := Ex.nrm, vs := [V.int IntKind.i64 w, V.ptr 0 0 0 0, V.ptr 1 0 0 0, V.int IntKind.i64 (IntKind.i64.wrap (o + (V.toInt ((rs.getD (0 + k.toNat) []).getD 1 V.any)))), V.int IntKind.i64 (IntKind.i64.wrap (IntKind.i64.wrap ((V.toInt ((rs.getD (0 + k.toNat) []).getD 0 V.any)) + 1) * 86400)), V.sl 2 0 0 2 n none, V.int IntKind.i64 N, V.int IntKind.i64 (IntKind.i64.wrap (k + 1))], upd := [none, none, none, none, none, none], new := [] }) Tree.fail) Tree.fail) (Tree.leaf { e := Ex.exit 0, vs := [V.int IntKind.i64 o, V.int IntKind.i64 l], upd := [none, none, none, none, none, none], new := [] })) := by
  kernel_rfl
theorem mnN_round (n : Nat) (w N k o l : Int) (rs : List (List V)) (os : List Int) (f : Int) : (evRound P (specsOf []) (loopsOf []) 66 [1, 2, 5, 7, 8, 30, 31, 32] [7, 8] (loopAt Tryd.f6 0) [.int .i64 w, .ptr 0 0 0 0, .ptr 1 0 0 0, .int .i64 o, .int .i64 l, .sl 2 0 0 2 n none, .int .i64 N, .int .i64 k] [.cells [.int .i64 f, .sl 2 0 0 2 n none], .cells [.nils, .sl 3 0 0 1 1 (some 1), .nils], .rows lpK rs, .ints .i64 os]).den = Tree.den (Tree.ite (decide (k < N)) (Tree.ite (decide (0 ≤ k) && decide (k < (↑n : Int))) (Tree.ite (decide (0 + k.toNat < rs.length)) (Tree.leaf { e := Ex.nrm, vs := [V.int IntKind.i64 w, V.ptr 0 0 0 0, V.ptr 1 0 0 0, V.int IntKind.i64 (IntKind.i64.wrap (o + (V.toInt ((rs.getD (0 + k.toNat) []).getD 1 V.any)))), V.int IntKind.i64 (IntKind.i64.wrap (IntKind.i64.wrap ((V.toInt ((rs.getD (0 + k.toNat) []).getD 0 V.any)) + 1) * 86400)), V.sl 2 0 0 2 n none, V.int IntKind.i64 N, V.int IntKind.i64 (IntKind.i64.wrap (k + 1))], upd := [none, none, none, none], new := [] }) Tree.fail) Tree.fail) (Tree.leaf { e := Ex.exit 0, vs := [V.int IntKind.i64 o, V.int IntKind.i64 l], upd := [none, none, none, none], new := [] })) := by
  kernel_rfl
theorem mn_all {n : Nat} {w f : Int} {rs qs : List (List V)} {os ss : List Int} {a b c : Nat} (hn : n = rs.length) (hn2 : n ≤ 1000000) : ∀ (rest : List Lp) (k : Nat) (p : Option Int) (o l : Int), (lps rs).drop k = rest → k + rest.length = n → pre p rest = rest.length → -2000000 ≤ o - rest.length → o + rest.length ≤ 2000000 →
    (loopN P (specsOf []) (loopsOf []) 66 [1, 2, 5, 7, 8, 30, 31, 32] [7, 8] (loopAt Tryd.f6 0) (rest.length + 1) [.int .i64 w, .ptr 0 0 0 0, .ptr 1 0 0 0, .int .i64 o, .int .i64 l, .sl 2 0 0 2 n none, .int .i64 n, .int .i64 k] [.cells [.int .i64 f, .sl 2 0 0 2 n none], .cells [.sl 3 0 0 2 a none, .sl 4 0 0 1 b none, .sl 5 0 0 1 c none], .rows lpK rs, .rows lpK qs, .ints .i64 os, .ints .i64 ss]).den = some ⟨.exit 0, [.int .i64 (sumS o rest), .int .i64 (lastD l rest)], [none, none, none, none, none, none], []⟩ := by
  intro rest
  induction rest with
  | nil =>
    intro k p o l hr hk _ _ _
    have hx := mn_round n w n k o l rs qs os ss a b c f
    rw [decide_eq_false (show ¬ (k : Int) < (n : Int) by simp at hk; omega)] at hx
    exact loopN_end hx (by show Ex.exit 0 ≠ Ex.nrm; decide)
  | cons x xs ih =>
    intro k p o l hr hk hp ho1 ho2
    simp only [List.length_cons] at hk ho1 ho2
    obtain ⟨hx, hd⟩ := drop_get hr
    rw [lps_get] at hx
    obtain ⟨hg, hp'⟩ := pre_cons hp
    obtain ⟨d1, d2, d3, d4⟩ := okL_iff.1 hg
    have e1 : V.toInt ((rs.getD k []).getD 0 V.any) = x.day := by rw [← hx]; rfl
    have e2 : V.toInt ((rs.getD k []).getD 1 V.any) = x.sign := by rw [← hx]; rfl
    have st := mn_round n w n k o l rs qs os ss a b c f
    have w1 : IntKind.i64.wrap (x.day + 1) = x.day + 1 := wrap64_id (by omega) (by omega)
    have w2 : IntKind.i64.wrap ((x.day + 1) * 86400) = (x.day + 1) * 86400 := wrap64_id (by omega) (by omega)
    have w6 : IntKind.i64.wrap ((k : Int) + 1) = ((k + 1 : Nat) : Int) := by rw [wrap64_id (by omega) (by omega)]; omega
    have w7 : IntKind.i64.wrap (o + x.sign) = o + x.sign := wrap64_id (by omega) (by omega)
    simp only [Nat.zero_add, Int.toNat_natCast, e1, e2, w1, w2, w6, w7] at st
    rw [decide_eq_true (show (k : Int) < (n : Int) by omega), decide_eq_true (show (0 : Int) ≤ k by omega), decide_eq_true (show k < rs.length by omega)] at st
    have ih' := ih (k + 1) _ (o + x.sign) ((x.day + 1) * 86400) hd (by omega) hp' (by omega) (by omega)
    refine loopN_step st rfl (vals' := [.int .i64 w, .ptr 0 0 0 0, .ptr 1 0 0 0, .int .i64 (o + x.sign), .int .i64 ((x.day + 1) * 86400), .sl 2 0 0 2 n none, .int .i64 n, .int .i64 ((k + 1 : Nat) : Int)]) (bs' := [.cells [.int .i64 f, .sl 2 0 0 2 n none], .cells [.sl 3 0 0 2 a none, .sl 4 0 0 1 b none, .sl 5 0 0 1 c none], .rows lpK rs, .rows lpK qs, .ints .i64 os, .ints .i64 ss]) (by kernel_rfl) (by kernel_rfl) (by kernel_rfl) ih' ?_
    (show (seqAfter _ _ _).den = some _; kernel_rfl)
def mnF (vals : List V) (bs : List Blk) : Tree LRes := match vals, bs with
  | [.int .i64 w, .ptr 0 0 0 0, .ptr 1 0 0 0, .int .i64 o, .int .i64 l, .sl 2 0 0 2 n none, .int .i64 N, .int .i64 k], [.cells [.int .i64 f, .sl 2 0 0 2 n' none], .cells [.sl 3 0 0 2 a none, .sl 4 0 0 1 b none, .sl 5 0 0 1 c none], .rows [.int .i64, .int .i64] rs, .rows [.int .i64, .int .i64] qs, .ints .i64 os, .ints .i64 ss] =>
    .need (decide (n' = n) && decide (n = rs.length) && decide (N = n) && decide (k = 0) && goodT o (lps rs) && decide (o = f) && decide (l = 0)) (.leaf ⟨.exit 0, [.int .i64 (sumS f (lps rs)), .int .i64 (lastD 0 (lps rs))], [none, none, none, none, none, none], []⟩)
  | [.int .i64 w, .ptr 0 0 0 0, .ptr 1 0 0 0, .int .i64 o, .int .i64 l, .sl 2 0 0 2 n none, .int .i64 N, .int .i64 k], [.cells [.int .i64 f, .sl 2 0 0 2 n' none], .cells [.nils, .sl 3 0 0 1 1 (some 1), .nils], .rows [.int .i64, .int .i64] rs, .ints .i64 os] =>
    .need (decide (n' = n) && decide (N = n) && decide (k = 0) && decide (n = 0)) (.leaf ⟨.exit 0, [.int .i64 o, .int .i64 l], [none, none, none, none], []⟩)
  | _, _ => .fail
def mnL : LSpec := ⟨66, [1, 2, 5, 7, 8, 30, 31, 32], [7, 8], mnF⟩
theorem mn_loop : LoopOK P (loopAt Tryd.f6 0) mnL := by
  refine loop_ok (GammaOK.nil P) Go.Proofs.YtbfiaogmfjadeaaDoor.hm (Λ := loopsOf []) (LoopsOK.nil (by kernel_rfl)) _ ?_
  intro vals bs r h
  simp only [mnL, mnF] at h
  split at h
  · rename_i w o l n N k f n' a b c rs qs os ss
    rw [den_need, denLf] at h
    simp only [Bool.and_eq_true, decide_eq_true_eq] at h
    obtain ⟨⟨⟨⟨⟨⟨⟨rfl, h1⟩, rfl⟩, rfl⟩, hg⟩, rfl⟩, rfl⟩, h⟩ := h
    obtain ⟨g1, g2, g3, g4⟩ := goodT_iff.1 hg
    have hll := lps_len rs
    have := mn_all (w := w) (f := o) (qs := qs) (os := os) (ss := ss) (a := a) (b := b) (c := c) h1 (by omega) (lps rs) 0 none o 0 rfl (by omega) g4 (by omega) (by omega)
    exact ⟨(lps rs).length + 1, this.trans h⟩
  · rename_i w o l n N k f n' rs os
    rw [den_need, denLf] at h
    simp only [Bool.and_eq_true, decide_eq_true_eq] at h
    obtain ⟨⟨⟨⟨rfl, rfl⟩, rfl⟩, rfl⟩, h⟩ := h
    cases h
    have hx := mnN_round 0 w ((0 : Nat) : Int) 0 o l rs os f
    rw [decide_eq_false (show ¬ (0 : Int) < ((0 : Nat) : Int) by omega)] at hx
    exact ⟨1, loopN_end hx (by show Ex.exit 0 ≠ Ex.nrm; decide)⟩
  · simp [den_fail] at h
abbrev mnG : List (Nat × Rx.Spec) := [kpE, (11, mkS), (14, alT), (18, offS)]
theorem mnG_ok : GammaOK P mnG := .cons keep_ok (.cons mk_ok (.cons alT_ok (.cons off_ok (.nil P))))
theorem lwMany_ok : SpecOK P 6 lwOnceS := by
  refine specOK_fast mnG_ok hm (Λ := loopsOf [(6, mnL)]) Tryd.func6 (by kernel_rfl) (LoopsOK.one (by kernel_rfl) mn_loop) ?_
  intro args bs r h
  unfold lwOnceS at h
  split at h
  · rename_i f n t rs
    rw [den_need, denLf] at h
    simp only [Bool.and_eq_true, decide_eq_true_eq] at h
    obtain ⟨⟨h1, h2⟩, h⟩ := h
    cases h
    rw [show (fFn P (specsOf mnG) (loopsOf [(6, mnL)]) Tryd.f6 [.agg [.int .i64 f, .sl 0 0 0 2 n none], .int .i64 t] [.rows lpK rs]).denN = Tree.denN (Tree.ite (decide (n = rs.length) && decide (n * 16 ≤ 140737488351232)) (Tree.ite (goodT f (lps rs)) (Tree.ite (decide (n = 0)) (Tree.ite (decide (t < 0)) (Tree.leaf { v := V.tru, upd := [none], new := [] }) (Tree.ite (decide (t > 1099511627776)) (Tree.leaf { v := V.tru, upd := [none], new := [] }) (Tree.ite (decide (n = n) && decide ((↑n : Int) = (↑n : Int)) && true && decide (n = 0)) (Tree.ite (goodT f []) (Tree.ite (f == f) (Tree.ite (goodT f []) (Tree.leaf { v := V.bool (f == f), upd := [none], new := [] }) Tree.fail) (Tree.leaf { v := V.fls, upd := [none], new := [] })) Tree.fail) Tree.fail))) (Tree.ite (decide (t < 0)) (Tree.leaf { v := V.tru, upd := [none], new := [] }) (Tree.ite (decide (t > 1099511627776)) (Tree.leaf { v := V.tru, upd := [none], new := [] }) (Tree.ite (decide (n = n) && decide (n = rs.length) && decide ((↑n : Int) = (↑n : Int)) && true && goodT f (lps rs) && decide (f = f) && true) (Tree.ite (okTA n (n + 1) n f (lpRows (lps rs)) (offsF f (lps rs)) (stF f (lps rs))) (Tree.ite ((lookF f (lps (lpRows (lps rs))) (IntKind.i64.wrap (IntKind.i64.wrap (IntKind.i64.wrap (lastD 0 (lps rs) + f) + 100) + t))).fst == sumS f (lps rs)) (Tree.ite (okTA n (n + 1) n f (lpRows (lps rs)) (offsF f (lps rs)) (stF f (lps rs))) (Tree.leaf { v := V.bool ((lookF f (lps (lpRows (lps rs))) (-1)).fst == f), upd := [none], new := [] }) Tree.fail) (Tree.leaf { v := V.fls, upd := [none], new := [] })) Tree.fail) Tree.fail)))) (Tree.leaf { v := V.tru, upd := [none], new := [] })) Tree.fail) from by kernel_rfl]
    simp only [denN_ite, denN_leaf, denN_fail, decide_eq_true h1, decide_eq_true h2, lps_rows, decide_true]
    cases hg : goodT f (lps rs) with
    | false => rfl
    | true =>
      obtain ⟨g1, g2, g3, g4⟩ := goodT_iff.1 hg
      by_cases c1 : t < 0
      · by_cases h0 : n = 0
        · simp only [decide_eq_true h0, decide_eq_true c1]; rfl
        · simp only [decide_eq_false h0, decide_eq_true c1]; rfl
      by_cases c2 : t > 1099511627776
      · by_cases h0 : n = 0
        · simp only [decide_eq_true h0, decide_eq_false c1, decide_eq_true c2]; rfl
        · simp only [decide_eq_false h0, decide_eq_false c1, decide_eq_true c2]; rfl
      by_cases h0 : n = 0
      · have e : lps rs = [] := lps_nil (by omega)
        rw [e] at hg
        simp only [decide_eq_true h0, decide_eq_false c1, decide_eq_false c2, hg, beq_self_eq_true]; rfl
      · have hl := lastD_bd (lps rs) none 0 g4 (by omega) (by omega)
        have hm := many (lastD 0 (lps rs) + f + 100 + t) (lps rs) none f 0 g4 (by omega)
        simp only [decide_eq_false h0, decide_eq_false c1, decide_eq_false c2, okTA_lp hg h1 h0]
        rw [wrap64_id (n := lastD 0 (lps rs) + f) (by omega) (by omega), wrap64_id (n := lastD 0 (lps rs) + f + 100) (by omega) (by omega), wrap64_id (n := lastD 0 (lps rs) + f + 100 + t) (by omega) (by omega), hm, look_neg hg, beq_self_eq_true, beq_self_eq_true]
        rfl
  · simp [den_fail] at h
end Go.Proofs.YtbfiaogmfjadeaaDoor

set_option maxRecDepth 100000
set_option linter.unusedSimpArgs false
set_option linter.unusedVariables false
namespace Go.Proofs.YtbfiaogmfjadeaaDoor
open Go.Rx
theorem fl61_iff (d : Int) (l : Bool) : ∀ (ls : List Lp) (a : Bool), fl61 d l a ls = true ↔ a = true ∨ (l = true ∧ ∃ x ∈ ls, x.day = d ∧ x.sign > 0)
  | [], a => by simp [fl61]
  | x :: xs, a => by
    rw [fl61, fl61_iff d l xs]
    simp only [Bool.or_eq_true, Bool.and_eq_true, beq_iff_eq, decide_eq_true_eq, List.mem_cons, exists_eq_or_imp]
    constructor
    · rintro ((h | ⟨h1, h2, h3⟩) | ⟨h1, h2⟩)
      · exact .inl h
      · exact .inr ⟨h1, .inl ⟨h2, h3⟩⟩
      · exact .inr ⟨h1, .inr h2⟩
    · rintro (h | ⟨h1, ⟨h2, h3⟩ | h2⟩)
      · exact .inl (.inl h)
      · exact .inl (.inr ⟨h1, h2, h3⟩)
      · exact .inr ⟨h1, h2⟩
theorem fl59_iff (d : Int) (l : Bool) : ∀ (ls : List Lp) (a : Bool), fl59 d l a ls = true ↔ a = true ∨ (l = true ∧ ∃ x ∈ ls, x.day = d ∧ x.sign < 0)
  | [], a => by simp [fl59]
  | x :: xs, a => by
    rw [fl59, fl59_iff d l xs]
    simp only [Bool.or_eq_true, Bool.and_eq_true, beq_iff_eq, decide_eq_true_eq, List.mem_cons, exists_eq_or_imp]
    constructor
    · rintro ((h | ⟨h1, h2, h3⟩) | ⟨h1, h2⟩)
      · exact .inl h
      · exact .inr ⟨h1, .inl ⟨h2, h3⟩⟩
      · exact .inr ⟨h1, .inr h2⟩
    · rintro (h | ⟨h1, ⟨h2, h3⟩ | h2⟩)
      · exact .inl (.inl h)
      · exact .inl (.inr ⟨h1, h2, h3⟩)
      · exact .inr ⟨h1, h2⟩
theorem mem_ge : ∀ (ls : List Lp) (d : Int), pre (some d) ls = ls.length → ∀ x ∈ ls, d + 2 ≤ x.day
  | [], _, _, x, h => by simp at h
  | y :: ys, d, hp, x, h => by
    obtain ⟨h1, h2⟩ := pre_cons hp
    obtain ⟨a1, a2, a3, a4⟩ := okL_iff.1 h1
    have := a4 d rfl
    rcases List.mem_cons.1 h with rfl | h
    · omega
    · have := mem_ge ys y.day h2 x h; omega
theorem mem_uniq : ∀ (ls : List Lp) (p : Option Int), pre p ls = ls.length → ∀ x ∈ ls, ∀ y ∈ ls, x.day = y.day → x = y
  | [], _, _, x, h, _, _, _ => by simp at h
  | z :: zs, p, hp, x, hx, y, hy, he => by
    obtain ⟨h1, h2⟩ := pre_cons hp
    rcases List.mem_cons.1 hx with q1 | q1
    · rcases List.mem_cons.1 hy with q2 | q2
      · rw [q1, q2]
      · have := mem_ge zs z.day h2 y q2; rw [q1] at he; omega
    · rcases List.mem_cons.1 hy with q2 | q2
      · have := mem_ge zs z.day h2 x q1; rw [q2] at he; omega
      · exact mem_uniq zs _ h2 x q1 y q2 he
theorem look_mem (t : Int) : ∀ (ls : List Lp) (f d : Int), (lookF f ls t).2 = some d → ∃ x ∈ ls, x.day = d ∧ x.sign = 1
  | [], _, _, h => by simp [lookF] at h
  | x :: xs, f, d, h => by
    simp only [lookF] at h
    split at h
    · rename_i c1
      split at h
      · simp only [Option.some.injEq] at h; exact ⟨x, by simp, h, c1⟩
      · split at h
        · obtain ⟨y, hy, q⟩ := look_mem t xs _ d h; exact ⟨y, by simp [hy], q⟩
        · simp at h
    · split at h
      · obtain ⟨y, hy, q⟩ := look_mem t xs _ d h; exact ⟨y, by simp [hy], q⟩
      · simp at h
def cntD (D : Int) : List Lp → Nat
  | [] => 0
  | x :: xs => if x.day < D then cntD D xs + 1 else 0
theorem leadE_day {S D : Int} (h1 : D * 86400 ≤ S) (h2 : S < (D + 1) * 86400) : ∀ ls : List Lp, leadE S ls = cntD D ls
  | [] => rfl
  | x :: xs => by
    simp only [leadE, cntD]
    by_cases h : x.day < D
    · rw [if_neg (by omega), if_pos h, leadE_day h1 h2 xs]
    · rw [if_pos (by omega), if_neg h]
theorem leadE_six {D : Int} : ∀ (ls : List Lp) (p : Option Int), pre p ls = ls.length → (∃ x ∈ ls, x.day = D) → leadE ((D + 1) * 86400) ls = cntD D ls + 1
  | [], _, _, ⟨x, h, _⟩ => by simp at h
  | y :: ys, p, hp, ⟨x, hx, he⟩ => by
    obtain ⟨h1, h2⟩ := pre_cons hp
    simp only [leadE, cntD]
    rcases List.mem_cons.1 hx with rfl | hx
    · rw [if_neg (by omega), if_neg (by omega), leadE_head h2 (by omega)]
    · have := mem_ge ys y.day h2 x hx
      rw [if_neg (by omega), if_pos (by omega), leadE_six ys _ h2 ⟨x, hx, he⟩]
/-- A label's day tells the offset. -/
theorem off_day {f t : Int} {ls : List Lp} (hg : goodT f ls = true) (hb : labB f ls t = true) :
    (lookF f ls t).1 = (f :: offsF f ls).getD (cntD (dayZ (labL f ls t).y (labL f ls t).mo (labL f ls t).d) ls) 0 ∧
    ((lookF f ls t).2 ≠ none → (lookF f ls t).2 = some (dayZ (labL f ls t).y (labL f ls t).mo (labL f ls t).d) ∧ labL f ls t = sixL (dayZ (labL f ls t).y (labL f ls t).mo (labL f ls t).d) ∧ t - (lookF f ls t).1 = (dayZ (labL f ls t).y (labL f ls t).mo (labL f ls t).d + 1) * 86400 ∧ 1 ≤ dayZ (labL f ls t).y (labL f ls t).mo (labL f ls t).d ∧ dayZ (labL f ls t).y (labL f ls t).mo (labL f ls t).d ≤ 2932895) ∧
    ((lookF f ls t).2 = none → labL f ls t = ofL (t - (lookF f ls t).1) ∧ ofB (t - (lookF f ls t).1) = true ∧ dayZ (labL f ls t).y (labL f ls t).mo (labL f ls t).d = (t - (lookF f ls t).1) / 86400 ∧ (t - (lookF f ls t).1) % 86400 = (labL f ls t).h * 3600 + (labL f ls t).mi * 60 + (labL f ls t).s) := by
  obtain ⟨g1, g2, g3, g4⟩ := goodT_iff.1 hg
  obtain ⟨r1, r2, r3, r4⟩ := lab_right hg hb
  obtain ⟨k1, k2⟩ := look_key t ls none f g4
  cases hk : (lookF f ls t).2 with
  | none =>
    have h6 : (labL f ls t).s ≠ 60 := fun h => (r3.1 h) hk
    obtain ⟨q1, q2⟩ := day_of_sec r1 h6
    rw [r2] at q1 q2
    have k := k1 hk
    rw [leadE_day (D := dayZ (labL f ls t).y (labL f ls t).mo (labL f ls t).d) (by rw [q1]; omega) (by rw [q1]; omega)] at k
    refine ⟨k.symm, fun h => absurd rfl h, fun _ => ⟨?_, ?_, q1, q2⟩⟩
    · unfold labL; rw [hk]
    · have hb' := hb
      unfold labB at hb'
      rw [hk, Bool.and_eq_true] at hb'
      exact hb'.2
  | some d =>
    have hd := look_day t ls none f d g4 hk
    have hs := look_six t ls f d hk
    have el : labL f ls t = sixL d := by unfold labL; rw [hk]
    have dd : dateB d = true := by unfold dateB; rw [decide_eq_true (by omega), decide_eq_true (by omega)]; rfl
    have ed : dayZ (labL f ls t).y (labL f ls t).mo (labL f ls t).d = d := by rw [el]; exact (date_day dd).2
    obtain ⟨k3, k4⟩ := k2 (by rw [hk]; simp)
    obtain ⟨x, hx, hx1, hx2⟩ := look_mem t ls f d hk
    rw [show t - (lookF f ls t).1 = (d + 1) * 86400 by omega, leadE_six ls none g4 ⟨x, hx, hx1⟩] at k4
    refine ⟨by rw [ed]; simpa using k4.symm, fun _ => ⟨by rw [ed], by rw [ed]; exact el, by rw [ed]; omega, by rw [ed]; omega, by rw [ed]; omega⟩, fun h => by simp at h⟩
theorem neg_skip (t : Int) : ∀ (ls : List Lp) (p : Option Int) (f : Int), pre p ls = ls.length → ∀ x ∈ ls, x.sign < 0 → t - (lookF f ls t).1 ≠ (x.day + 1) * 86400 - 1
  | [], _, _, _, x, h, _ => by simp at h
  | y :: ys, p, f, hp, x, hx, hs => by
    obtain ⟨h1, h2⟩ := pre_cons hp
    obtain ⟨a1, a2, a3, a4⟩ := okL_iff.1 h1
    rcases List.mem_cons.1 hx with rfl | hx
    · by_cases c3 : t ≥ (x.day + 1) * 86400 - 1 + f
      · rw [lookF, if_neg (by omega), if_pos c3]
        have := look_ge t ys x.day (f - 1) h2 (by omega)
        omega
      · rw [lookF, if_neg (by omega), if_neg c3]; simp only; omega
    · have hm := mem_ge ys y.day h2 x hx
      rcases a3 with a3 | a3
      · by_cases c2 : t = (y.day + 1) * 86400 + f
        · rw [lookF, if_pos a3, if_pos c2]; simp only; omega
        · by_cases c3 : t > (y.day + 1) * 86400 + f
          · rw [lookF, if_pos a3, if_neg c2, if_pos c3]; exact neg_skip t ys _ _ h2 x hx hs
          · rw [lookF, if_pos a3, if_neg c2, if_neg c3]; simp only; omega
      · by_cases c3 : t ≥ (y.day + 1) * 86400 - 1 + f
        · rw [lookF, if_neg (by omega), if_pos c3]; exact neg_skip t ys _ _ h2 x hx hs
        · rw [lookF, if_neg (by omega), if_neg c3]; simp only; omega
/-- What is said of a day gives the label at any time of it. -/
theorem by_note {f T : Int} {ls : List Lp} {L : Bool} (hg : goodT f ls = true) (hb : labB f ls T = true) (hT : T ≤ 1099511627776)
    (hL : L = true → 12 ≤ (labL f ls T).h) (h6 : (lookF f ls T).2 ≠ none → L = true) {N : Nte} (hN : N = ⟨(lookF f ls T).1, fl61 (dayZ (labL f ls T).y (labL f ls T).mo (labL f ls T).d) L false ls, fl59 (dayZ (labL f ls T).y (labL f ls T).mo (labL f ls T).d) L false ls, true⟩) :
    byB N T = true ∧ byL N T = labL f ls T := by
  obtain ⟨g1, g2, g3, g4⟩ := goodT_iff.1 hg
  obtain ⟨r1, r2, r3, r4⟩ := lab_right hg hb
  obtain ⟨o1, o2, o3⟩ := off_day hg hb
  have hbd := look_bd T ls f
  generalize hD : dayZ (labL f ls T).y (labL f ls T).mo (labL f ls T).d = D at *
  have hne : ¬ (fl61 D L false ls = true ∧ fl59 D L false ls = true) := by
    rintro ⟨p, q⟩
    rcases (fl61_iff D L ls false).1 p with h | ⟨_, x, hx, hx1, hx2⟩
    · cases h
    rcases (fl59_iff D L ls false).1 q with h | ⟨_, y, hy, hy1, hy2⟩
    · cases h
    have := mem_uniq ls none g4 x hx y hy (by omega)
    subst this; omega
  have hG : byG N T = true := by
    subst hN
    unfold byG
    simp only [decide_eq_true (show -32768 ≤ (lookF f ls T).1 by omega), decide_eq_true (show (lookF f ls T).1 < 32768 by omega), decide_eq_true r4, decide_eq_true hT, Bool.and_true, Bool.true_and]
    cases p : fl61 D L false ls <;> cases q : fl59 D L false ls <;> first | rfl | exact absurd ⟨p, q⟩ hne
  cases hk : (lookF f ls T).2 with
  | some d =>
    obtain ⟨e1, e2, e3, e4, e5⟩ := o2 (by rw [hk]; simp)
    have hL' := h6 (by rw [hk]; simp)
    have hdd : dateB D = true := by unfold dateB; rw [decide_eq_true (by omega), decide_eq_true (by omega)]; rfl
    obtain ⟨x, hx, hx1, hx2⟩ := look_mem T ls f D e1
    have h61 : fl61 D L false ls = true := (fl61_iff D L ls false).2 (.inr ⟨hL', x, hx, hx1, by omega⟩)
    have hsix : bySix N T = true := by
      subst hN
      unfold bySix
      simp only [h61, e3]
      rw [decide_eq_true (show (D + 1) * 86400 > 0 by omega), decide_eq_true (show (D + 1) * 86400 % 86400 = 0 by omega)]; rfl
    have hoff : T - N.off = (D + 1) * 86400 := by subst hN; exact e3
    have hq : (D + 1) * 86400 / 86400 - 1 = D := by omega
    have hB : byB N T = true := by unfold byB; rw [hG, hsix, if_pos rfl, hoff, hq, hdd]; rfl
    refine ⟨hB, ?_⟩
    unfold byL
    rw [hB, if_pos rfl, hsix, if_pos rfl, hoff, hq]; exact e2.symm
  | none =>
    obtain ⟨e1, e2, e3, e4⟩ := o3 hk
    obtain ⟨q0, q1, q2, q3, q4, q5, q6, q7⟩ := right_mem r1
    have hoff : T - N.off = T - (lookF f ls T).1 := by subst hN; rfl
    have hsix : bySix N T = false := by
      unfold bySix
      rw [hoff]
      by_cases hz : (T - (lookF f ls T).1) % 86400 = 0
      · have : N.l61 = false := by
          subst hN
          show fl61 D L false ls = false
          cases p : fl61 D L false ls with
          | false => rfl
          | true =>
            rcases (fl61_iff D L ls false).1 p with h | ⟨hl, _⟩
            · cases h
            · have := hL hl; omega
        rw [this]; rfl
      · rw [decide_eq_false hz, Bool.and_false]
    have hU : byU N T = T - (lookF f ls T).1 := by
      unfold byU
      rw [hoff]
      by_cases hz : (T - (lookF f ls T).1 + 1) % 86400 = 0
      · have : N.l59 = false := by
          subst hN
          show fl59 D L false ls = false
          cases p : fl59 D L false ls with
          | false => rfl
          | true =>
            rcases (fl59_iff D L ls false).1 p with h | ⟨hl, x, hx, hx1, hx2⟩
            · cases h
            · have := neg_skip T ls none f g4 x hx hx2; omega
        rw [this, if_neg (by simp)]
      · rw [decide_eq_false hz, Bool.and_false, if_neg (by decide)]
    have hB : byB N T = true := by unfold byB; rw [hG, hsix, if_neg (by decide), hU, e2]; rfl
    refine ⟨hB, ?_⟩
    unfold byL
    rw [hB, if_pos rfl, hsix, if_neg (by decide), hU]; exact e1.symm
/-- What was said at a time of a day, or behind its noon. -/
theorem told {f t T : Int} {ls : List Lp} (hg : goodT f ls = true) (h1 : labB f ls t = true) (h2 : labB f ls T = true) (hle : t ≤ T) (hT : T ≤ 1099511627776)
    (hy : (labL f ls t).y = (labL f ls T).y) (hmo : (labL f ls t).mo = (labL f ls T).mo) (hd : (labL f ls t).d = (labL f ls T).d) :
    (((labL f ls t).h < 12 ∧ 12 ≤ (labL f ls T).h) → byB (noteT f ls T) T = true ∧ byL (noteT f ls T) T = labL f ls T) ∧
    (¬ ((labL f ls t).h < 12 ∧ 12 ≤ (labL f ls T).h) → byB (noteT f ls t) T = true ∧ byL (noteT f ls t) T = labL f ls T) := by
  obtain ⟨o1, o2, o3⟩ := off_day hg h1
  obtain ⟨p1, p2, p3⟩ := off_day hg h2
  rw [hy, hmo, hd] at o1 o2 o3
  obtain ⟨r1, _, r3, _⟩ := lab_right hg h1
  obtain ⟨s1, _, s3, _⟩ := lab_right hg h2
  obtain ⟨q0, q1, q2, q3, q4, q5, q6, q7⟩ := right_mem r1
  obtain ⟨u0, u1, u2, u3, u4, u5, u6, u7⟩ := right_mem s1
  have eo : (lookF f ls t).1 = (lookF f ls T).1 := o1.trans p1.symm
  have h23 : (lookF f ls T).2 ≠ none → (labL f ls T).h = 23 := fun h => (u7 (s3.2 h)).1
  constructor
  · rintro ⟨c1, c2⟩
    refine by_note (L := decide (12 ≤ (labL f ls T).h)) hg h2 hT (fun h => c2) (fun h => decide_eq_true c2) ?_
    rfl
  · intro hc
    have mono : 12 ≤ (labL f ls t).h → 12 ≤ (labL f ls T).h := by
      intro h12
      by_cases hn : (lookF f ls T).2 = none
      · obtain ⟨e1, e2, e3, e4⟩ := p3 hn
        by_cases hm : (lookF f ls t).2 = none
        · obtain ⟨f1, f2, f3, f4⟩ := o3 hm
          omega
        · obtain ⟨f1, f2, f3, f4, f5⟩ := o2 hm
          omega
      · have := h23 hn; omega
    refine by_note (L := decide (12 ≤ (labL f ls t).h)) hg h2 hT (fun h => mono (of_decide_eq_true h)) (fun h => decide_eq_true (by have := h23 h; omega)) ?_
    unfold noteT
    rw [eo, hy, hmo, hd]
end Go.Proofs.YtbfiaogmfjadeaaDoor

set_option maxRecDepth 100000
set_option linter.unusedSimpArgs false
set_option linter.unusedVariables false
namespace Go.Proofs.YtbfiaogmfjadeaaDoor
open Go.Rx
abbrev tlE : List (Nat × Rx.Spec) := [kpE, (11, mkS), (14, alT), (16, lbS)]
theorem tlE_ok : GammaOK P tlE := .cons keep_ok (.cons mk_ok (.cons alT_ok (.cons lb_ok (.nil P))))
abbrev tlA : List (Nat × Rx.Spec) := [kpE, (11, mkA), (14, alT), (16, lbT), (19, noT), (27, byT), (31, spOfT), (29, spsU)]
theorem tlA_ok : GammaOK P tlA := .cons keep_ok (.cons mkA_ok (.cons alT_ok (.cons lbT_ok (.cons noT_ok (.cons byT_ok (.cons spOfT_ok (.cons spsU_ok (.nil P))))))))
abbrev tlN : List (Nat × Rx.Spec) := [kpE, (11, mkN), (14, alT), (16, lbT), (19, noT), (27, byT), (31, spOfT), (29, spsU)]
theorem tlN_ok : GammaOK P tlN := .cons keep_ok (.cons mkN_ok (.cons alT_ok (.cons lbT_ok (.cons noT_ok (.cons byT_ok (.cons spOfT_ok (.cons spsU_ok (.nil P))))))))
def tdC (f : Int) (ls : List Lp) (t m : Int) : Bool := decide (0 ≤ t) && decide (t ≤ 4294967296) && decide (0 ≤ m) && decide (m ≤ 86400) && labB f ls t && labB f ls (t + m)
def lwToldE : Rx.Spec := fun a b => match a, b with
  | [.agg [.int .i64 f, .sl 0 0 0 2 n none], .int .i64 t, .int .i64 m], [.rows [.int .i64, .int .i64] rs] => .need (decide (n = rs.length) && decide (n * 16 ≤ 140737488351232) && !(goodT f (lps rs) && tdC f (lps rs) t m)) (.leaf ⟨.bool true, [none], []⟩)
  | _, _ => .fail
theorem lwToldE_ok : SpecOK P 10 lwToldE := by
  refine specOK_fast tlE_ok hm (Λ := loopsOf []) Tryd.func10 (by kernel_rfl) (LoopsOK.nil (by kernel_rfl)) ?_
  intro args bs r h
  unfold lwToldE at h
  split at h
  · rename_i f n t m rs
    rw [den_need, denLf] at h
    simp only [Bool.and_eq_true, decide_eq_true_eq, Bool.not_eq_true'] at h
    obtain ⟨⟨⟨h1, h2⟩, hc⟩, h⟩ := h
    cases h
    rw [show (fFn P (specsOf tlE) (loopsOf []) Tryd.f10 [.agg [.int .i64 f, .sl 0 0 0 2 n none], .int .i64 t, .int .i64 m] [.rows lpK rs]).denN = Tree.denN (Tree.ite (decide (n = rs.length) && decide (n * 16 ≤ 140737488351232)) (Tree.ite (goodT f (lps rs)) (Tree.ite (decide (n = 0)) (Tree.ite (decide (t < 0)) (Tree.leaf { v := V.tru, upd := [none], new := [] }) (Tree.ite (decide (t > 4294967296)) (Tree.leaf { v := V.tru, upd := [none], new := [] }) (Tree.ite (decide (m < 0)) (Tree.leaf { v := V.tru, upd := [none], new := [] }) (Tree.ite (decide (m > 86400)) (Tree.leaf { v := V.tru, upd := [none], new := [] }) (Tree.ite (goodT f []) (Tree.ite (decide (t ≤ 9000000000000000000)) (Tree.ite (labB f [] t) (Tree.ite (goodT f []) (Tree.ite (decide (IntKind.i64.wrap (t + m) ≤ 9000000000000000000)) (Tree.ite (labB f [] (IntKind.i64.wrap (t + m))) (Tree.ite (dYear ((t - f) / 86400) != dYear ((IntKind.i64.wrap (t + m) - f) / 86400)) (Tree.leaf { v := V.tru, upd := [none], new := [] }) (Tree.ite (dMonth ((t - f) / 86400) != dMonth ((IntKind.i64.wrap (t + m) - f) / 86400)) (Tree.leaf { v := V.tru, upd := [none], new := [] }) (Tree.ite (dDay ((t - f) / 86400) != dDay ((IntKind.i64.wrap (t + m) - f) / 86400)) (Tree.leaf { v := V.tru, upd := [none], new := [] }) Tree.fail))) (Tree.leaf { v := V.tru, upd := [none], new := [] })) Tree.fail) Tree.fail) (Tree.ite (goodT f []) (Tree.ite (decide (IntKind.i64.wrap (t + m) ≤ 9000000000000000000)) (Tree.ite (labB f [] (IntKind.i64.wrap (t + m))) (Tree.leaf { v := V.tru, upd := [none], new := [] }) (Tree.leaf { v := V.tru, upd := [none], new := [] })) Tree.fail) Tree.fail)) Tree.fail) Tree.fail))))) (Tree.ite (decide (t < 0)) (Tree.leaf { v := V.tru, upd := [none], new := [] }) (Tree.ite (decide (t > 4294967296)) (Tree.leaf { v := V.tru, upd := [none], new := [] }) (Tree.ite (decide (m < 0)) (Tree.leaf { v := V.tru, upd := [none], new := [] }) (Tree.ite (decide (m > 86400)) (Tree.leaf { v := V.tru, upd := [none], new := [] }) (Tree.ite (okTA n (n + 1) n f (lpRows (lps rs)) (offsF f (lps rs)) (stF f (lps rs))) (Tree.ite (decide (t ≤ 9000000000000000000)) (Tree.ite (labB f (lps (lpRows (lps rs))) t) (Tree.ite (okTA n (n + 1) n f (lpRows (lps rs)) (offsF f (lps rs)) (stF f (lps rs))) (Tree.ite (decide (IntKind.i64.wrap (t + m) ≤ 9000000000000000000)) (Tree.ite (labB f (lps (lpRows (lps rs))) (IntKind.i64.wrap (t + m))) (Tree.ite ((labL f (lps (lpRows (lps rs))) t).1 != (labL f (lps (lpRows (lps rs))) (IntKind.i64.wrap (t + m))).1) (Tree.leaf { v := V.tru, upd := [none], new := [] }) (Tree.ite ((labL f (lps (lpRows (lps rs))) t).2 != (labL f (lps (lpRows (lps rs))) (IntKind.i64.wrap (t + m))).2) (Tree.leaf { v := V.tru, upd := [none], new := [] }) (Tree.ite ((labL f (lps (lpRows (lps rs))) t).3 != (labL f (lps (lpRows (lps rs))) (IntKind.i64.wrap (t + m))).3) (Tree.leaf { v := V.tru, upd := [none], new := [] }) Tree.fail))) (Tree.leaf { v := V.tru, upd := [none], new := [] })) Tree.fail) Tree.fail) (Tree.ite (okTA n (n + 1) n f (lpRows (lps rs)) (offsF f (lps rs)) (stF f (lps rs))) (Tree.ite (decide (IntKind.i64.wrap (t + m) ≤ 9000000000000000000)) (Tree.ite (labB f (lps (lpRows (lps rs))) (IntKind.i64.wrap (t + m))) (Tree.leaf { v := V.tru, upd := [none], new := [] }) (Tree.leaf { v := V.tru, upd := [none], new := [] })) Tree.fail) Tree.fail)) Tree.fail) Tree.fail)))))) (Tree.leaf { v := V.tru, upd := [none], new := [] })) Tree.fail) from by kernel_rfl]
    simp only [denN_ite, denN_leaf, denN_fail, decide_eq_true h1, decide_eq_true h2, lps_rows]
    cases hg : goodT f (lps rs) with
    | false => rfl
    | true =>
      by_cases c1 : t < 0
      · by_cases h0 : n = 0
        · simp only [decide_eq_true h0, decide_eq_true c1]; rfl
        · simp only [decide_eq_false h0, decide_eq_true c1]; rfl
      by_cases c2 : t > 4294967296
      · by_cases h0 : n = 0
        · simp only [decide_eq_true h0, decide_eq_false c1, decide_eq_true c2]; rfl
        · simp only [decide_eq_false h0, decide_eq_false c1, decide_eq_true c2]; rfl
      by_cases c3 : m < 0
      · by_cases h0 : n = 0
        · simp only [decide_eq_true h0, decide_eq_false c1, decide_eq_false c2, decide_eq_true c3]; rfl
        · simp only [decide_eq_false h0, decide_eq_false c1, decide_eq_false c2, decide_eq_true c3]; rfl
      by_cases c4 : m > 86400
      · by_cases h0 : n = 0
        · simp only [decide_eq_true h0, decide_eq_false c1, decide_eq_false c2, decide_eq_false c3, decide_eq_true c4]; rfl
        · simp only [decide_eq_false h0, decide_eq_false c1, decide_eq_false c2, decide_eq_false c3, decide_eq_true c4]; rfl
      rw [hg] at hc
      simp only [tdC, decide_eq_true (show 0 ≤ t by omega), decide_eq_true (show t ≤ 4294967296 by omega), decide_eq_true (show 0 ≤ m by omega), decide_eq_true (show m ≤ 86400 by omega), Bool.true_and] at hc
      rw [wrap64_id (n := t + m) (by omega) (by omega)]
      simp only [decide_eq_false c1, decide_eq_false c2, decide_eq_false c3, decide_eq_false c4, decide_eq_true (show t ≤ 9000000000000000000 by omega), decide_eq_true (show t + m ≤ 9000000000000000000 by omega)]
      by_cases h0 : n = 0
      · have e : lps rs = [] := lps_nil (by omega)
        rw [e] at hg hc
        simp only [decide_eq_true h0, hg]
        cases q1 : labB f [] t <;> cases q2 : labB f [] (t + m) <;> rw [q1, q2] at hc <;> first | rfl | cases hc
      · simp only [decide_eq_false h0, okTA_lp hg h1 h0]
        cases q1 : labB f (lps rs) t <;> cases q2 : labB f (lps rs) (t + m) <;> rw [q1, q2] at hc <;> first | rfl | cases hc
  · simp [den_fail] at h
theorem span_T {T : Int} (h0 : 0 ≤ T) (h1 : T ≤ 4295053696) : IntKind.i64.wrap (T * 1000000000) = T * 1000000000 ∧ IntKind.i64.wrap (T * 1000000000 + 999999999) = T * 1000000000 + 999999999 ∧ spB (T * 1000000000) (T * 1000000000 + 999999999) = true ∧ T * 1000000000 / 1000000000 = T ∧ (T * 1000000000 + 999999999) / 1000000000 = T := by
  refine ⟨wrap64_id (by omega) (by omega), wrap64_id (by omega) (by omega), ?_, by omega, by omega⟩
  unfold spB
  rw [smB_iff.2 (by omega), smB_iff.2 (by omega), decide_eq_true (by omega)]; rfl
theorem spsB_T {N : Nte} {T : Int} (h0 : 0 ≤ T) (h1 : T ≤ 4295053696) (hb : byB N T = true) : spsB N (T * 1000000000) (T * 1000000000 + 999999999) true = true := by
  obtain ⟨s1, s2, s3, s4, s5⟩ := span_T h0 h1
  unfold spsB
  rw [s3, s4, s5, hb, decide_eq_true (by omega)]; rfl
def lwToldA : Rx.Spec := fun a b => match a, b with
  | [.agg [.int .i64 f, .sl 0 0 0 2 n none], .int .i64 t, .int .i64 m], [.rows [.int .i64, .int .i64] rs] => .need (decide (n = rs.length) && decide (n * 16 ≤ 140737488351232) && (goodT f (lps rs) && tdC f (lps rs) t m) && decide (n ≠ 0)) (.leaf ⟨.bool true, [none], []⟩)
  | _, _ => .fail
theorem lwToldA_ok : SpecOK P 10 lwToldA := by
  refine specOK_fast tlA_ok hm (Λ := loopsOf []) Tryd.func10 (by kernel_rfl) (LoopsOK.nil (by kernel_rfl)) ?_
  intro args bs r h
  unfold lwToldA at h
  split at h
  · rename_i f n t m rs
    rw [den_need, denLf] at h
    simp only [tdC, Bool.and_eq_true, decide_eq_true_eq] at h
    obtain ⟨⟨⟨⟨h1, h2⟩, hg, ⟨⟨⟨⟨⟨c1, c2⟩, c3⟩, c4⟩, hl⟩, hm⟩⟩, h0⟩, h⟩ := h
    cases h
    rw [show (fFn P (specsOf tlA) (loopsOf []) Tryd.f10 [.agg [.int .i64 f, .sl 0 0 0 2 n none], .int .i64 t, .int .i64 m] [.rows lpK rs]).denN = Tree.denN (Tree.ite (decide (n = rs.length) && decide (n * 16 ≤ 140737488351232) && goodT f (lps rs) && decide (n ≠ 0)) (Tree.ite (decide (t < 0)) (Tree.leaf { v := V.tru, upd := [none], new := [] }) (Tree.ite (decide (t > 4294967296)) (Tree.leaf { v := V.tru, upd := [none], new := [] }) (Tree.ite (decide (m < 0)) (Tree.leaf { v := V.tru, upd := [none], new := [] }) (Tree.ite (decide (m > 86400)) (Tree.leaf { v := V.tru, upd := [none], new := [] }) (Tree.ite (okTA n (n + 1) n f (lpRows (lps rs)) (offsF f (lps rs)) (stF f (lps rs))) (Tree.ite (decide (t ≤ 9000000000000000000) && labB f (lps (lpRows (lps rs))) t) (Tree.ite (okTA n (n + 1) n f (lpRows (lps rs)) (offsF f (lps rs)) (stF f (lps rs))) (Tree.ite (decide (IntKind.i64.wrap (t + m) ≤ 9000000000000000000) && labB f (lps (lpRows (lps rs))) (IntKind.i64.wrap (t + m))) (Tree.ite ((labL f (lps (lpRows (lps rs))) t).1 != (labL f (lps (lpRows (lps rs))) (IntKind.i64.wrap (t + m))).1) (Tree.leaf { v := V.tru, upd := [none], new := [] }) (Tree.ite ((labL f (lps (lpRows (lps rs))) t).2 != (labL f (lps (lpRows (lps rs))) (IntKind.i64.wrap (t + m))).2) (Tree.leaf { v := V.tru, upd := [none], new := [] }) (Tree.ite ((labL f (lps (lpRows (lps rs))) t).3 != (labL f (lps (lpRows (lps rs))) (IntKind.i64.wrap (t + m))).3) (Tree.leaf { v := V.tru, upd := [none], new := [] }) (Tree.ite (okTA n (n + 1) n f (lpRows (lps rs)) (offsF f (lps rs)) (stF f (lps rs))) (Tree.ite (decide (t ≤ 9000000000000000000) && labB f (lps (lpRows (lps rs))) t) (Tree.ite (decide ((labL f (lps (lpRows (lps rs))) t).4 < 12)) (Tree.ite (decide ((labL f (lps (lpRows (lps rs))) (IntKind.i64.wrap (t + m))).4 ≥ 12)) (Tree.ite (okTA n (n + 1) n f (lpRows (lps rs)) (offsF f (lps rs)) (stF f (lps rs))) (Tree.ite (decide (IntKind.i64.wrap (t + m) ≤ 9000000000000000000) && labB f (lps (lpRows (lps rs))) (IntKind.i64.wrap (t + m))) (Tree.ite (byB { off := (lookF f (lps (lpRows (lps rs))) (IntKind.i64.wrap (t + m))).fst, l61 := fl61 (dayZ (labL f (lps (lpRows (lps rs))) (IntKind.i64.wrap (t + m))).1 (labL f (lps (lpRows (lps rs))) (IntKind.i64.wrap (t + m))).2 (labL f (lps (lpRows (lps rs))) (IntKind.i64.wrap (t + m))).3) (decide (12 ≤ (labL f (lps (lpRows (lps rs))) (IntKind.i64.wrap (t + m))).4)) false (lps (lpRows (lps rs))), l59 := fl59 (dayZ (labL f (lps (lpRows (lps rs))) (IntKind.i64.wrap (t + m))).1 (labL f (lps (lpRows (lps rs))) (IntKind.i64.wrap (t + m))).2 (labL f (lps (lpRows (lps rs))) (IntKind.i64.wrap (t + m))).3) (decide (12 ≤ (labL f (lps (lpRows (lps rs))) (IntKind.i64.wrap (t + m))).4)) false (lps (lpRows (lps rs))), va := true } (IntKind.i64.wrap (t + m))) (Tree.ite (spB (IntKind.i64.wrap (IntKind.i64.wrap (t + m) * 1000000000)) (IntKind.i64.wrap (IntKind.i64.wrap (IntKind.i64.wrap (t + m) * 1000000000) + 999999999))) (Tree.ite (spsB { off := (lookF f (lps (lpRows (lps rs))) (IntKind.i64.wrap (t + m))).fst, l61 := fl61 (dayZ (labL f (lps (lpRows (lps rs))) (IntKind.i64.wrap (t + m))).1 (labL f (lps (lpRows (lps rs))) (IntKind.i64.wrap (t + m))).2 (labL f (lps (lpRows (lps rs))) (IntKind.i64.wrap (t + m))).3) (decide (12 ≤ (labL f (lps (lpRows (lps rs))) (IntKind.i64.wrap (t + m))).4)) false (lps (lpRows (lps rs))), l59 := fl59 (dayZ (labL f (lps (lpRows (lps rs))) (IntKind.i64.wrap (t + m))).1 (labL f (lps (lpRows (lps rs))) (IntKind.i64.wrap (t + m))).2 (labL f (lps (lpRows (lps rs))) (IntKind.i64.wrap (t + m))).3) (decide (12 ≤ (labL f (lps (lpRows (lps rs))) (IntKind.i64.wrap (t + m))).4)) false (lps (lpRows (lps rs))), va := true } (IntKind.i64.wrap (IntKind.i64.wrap (t + m) * 1000000000)) (IntKind.i64.wrap (IntKind.i64.wrap (IntKind.i64.wrap (t + m) * 1000000000) + 999999999)) true) (Tree.ite (Lab.eqB (byL (noteT f (lps (lpRows (lps rs))) (IntKind.i64.wrap (t + m))) (IntKind.i64.wrap (t + m))) (labL f (lps (lpRows (lps rs))) (IntKind.i64.wrap (t + m)))) (Tree.ite (Lab.eqB (byL (noteT f (lps (lpRows (lps rs))) (IntKind.i64.wrap (t + m))) (IntKind.i64.wrap (IntKind.i64.wrap (t + m) * 1000000000) / 1000000000)) (labL f (lps (lpRows (lps rs))) (IntKind.i64.wrap (t + m)))) (Tree.leaf { v := V.bool (Lab.eqB (byL (noteT f (lps (lpRows (lps rs))) (IntKind.i64.wrap (t + m))) (IntKind.i64.wrap (IntKind.i64.wrap (IntKind.i64.wrap (t + m) * 1000000000) + 999999999) / 1000000000)) (labL f (lps (lpRows (lps rs))) (IntKind.i64.wrap (t + m)))), upd := [none], new := [] }) (Tree.leaf { v := V.fls, upd := [none], new := [] })) (Tree.leaf { v := V.fls, upd := [none], new := [] })) Tree.fail) Tree.fail) Tree.fail) Tree.fail) Tree.fail) (Tree.ite (byB { off := (lookF f (lps (lpRows (lps rs))) t).fst, l61 := fl61 (dayZ (labL f (lps (lpRows (lps rs))) t).1 (labL f (lps (lpRows (lps rs))) t).2 (labL f (lps (lpRows (lps rs))) t).3) (decide (12 ≤ (labL f (lps (lpRows (lps rs))) t).4)) false (lps (lpRows (lps rs))), l59 := fl59 (dayZ (labL f (lps (lpRows (lps rs))) t).1 (labL f (lps (lpRows (lps rs))) t).2 (labL f (lps (lpRows (lps rs))) t).3) (decide (12 ≤ (labL f (lps (lpRows (lps rs))) t).4)) false (lps (lpRows (lps rs))), va := true } (IntKind.i64.wrap (t + m))) (Tree.ite (spB (IntKind.i64.wrap (IntKind.i64.wrap (t + m) * 1000000000)) (IntKind.i64.wrap (IntKind.i64.wrap (IntKind.i64.wrap (t + m) * 1000000000) + 999999999))) (Tree.ite (spsB { off := (lookF f (lps (lpRows (lps rs))) t).fst, l61 := fl61 (dayZ (labL f (lps (lpRows (lps rs))) t).1 (labL f (lps (lpRows (lps rs))) t).2 (labL f (lps (lpRows (lps rs))) t).3) (decide (12 ≤ (labL f (lps (lpRows (lps rs))) t).4)) false (lps (lpRows (lps rs))), l59 := fl59 (dayZ (labL f (lps (lpRows (lps rs))) t).1 (labL f (lps (lpRows (lps rs))) t).2 (labL f (lps (lpRows (lps rs))) t).3) (decide (12 ≤ (labL f (lps (lpRows (lps rs))) t).4)) false (lps (lpRows (lps rs))), va := true } (IntKind.i64.wrap (IntKind.i64.wrap (t + m) * 1000000000)) (IntKind.i64.wrap (IntKind.i64.wrap (IntKind.i64.wrap (t + m) * 1000000000) + 999999999)) true) (Tree.ite (Lab.eqB (byL (noteT f (lps (lpRows (lps rs))) t) (IntKind.i64.wrap (t + m))) (labL f (lps (lpRows (lps rs))) (IntKind.i64.wrap (t + m)))) (Tree.ite (Lab.eqB (byL (noteT f (lps (lpRows (lps rs))) t) (IntKind.i64.wrap (IntKind.i64.wrap (t + m) * 1000000000) / 1000000000)) (labL f (lps (lpRows (lps rs))) (IntKind.i64.wrap (t + m)))) (Tree.leaf { v := V.bool (Lab.eqB (byL (noteT f (lps (lpRows (lps rs))) t) (IntKind.i64.wrap (IntKind.i64.wrap (IntKind.i64.wrap (t + m) * 1000000000) + 999999999) / 1000000000)) (labL f (lps (lpRows (lps rs))) (IntKind.i64.wrap (t + m)))), upd := [none], new := [] }) (Tree.leaf { v := V.fls, upd := [none], new := [] })) (Tree.leaf { v := V.fls, upd := [none], new := [] })) Tree.fail) Tree.fail) Tree.fail)) (Tree.ite (byB { off := (lookF f (lps (lpRows (lps rs))) t).fst, l61 := fl61 (dayZ (labL f (lps (lpRows (lps rs))) t).1 (labL f (lps (lpRows (lps rs))) t).2 (labL f (lps (lpRows (lps rs))) t).3) (decide (12 ≤ (labL f (lps (lpRows (lps rs))) t).4)) false (lps (lpRows (lps rs))), l59 := fl59 (dayZ (labL f (lps (lpRows (lps rs))) t).1 (labL f (lps (lpRows (lps rs))) t).2 (labL f (lps (lpRows (lps rs))) t).3) (decide (12 ≤ (labL f (lps (lpRows (lps rs))) t).4)) false (lps (lpRows (lps rs))), va := true } (IntKind.i64.wrap (t + m))) (Tree.ite (spB (IntKind.i64.wrap (IntKind.i64.wrap (t + m) * 1000000000)) (IntKind.i64.wrap (IntKind.i64.wrap (IntKind.i64.wrap (t + m) * 1000000000) + 999999999))) (Tree.ite (spsB { off := (lookF f (lps (lpRows (lps rs))) t).fst, l61 := fl61 (dayZ (labL f (lps (lpRows (lps rs))) t).1 (labL f (lps (lpRows (lps rs))) t).2 (labL f (lps (lpRows (lps rs))) t).3) (decide (12 ≤ (labL f (lps (lpRows (lps rs))) t).4)) false (lps (lpRows (lps rs))), l59 := fl59 (dayZ (labL f (lps (lpRows (lps rs))) t).1 (labL f (lps (lpRows (lps rs))) t).2 (labL f (lps (lpRows (lps rs))) t).3) (decide (12 ≤ (labL f (lps (lpRows (lps rs))) t).4)) false (lps (lpRows (lps rs))), va := true } (IntKind.i64.wrap (IntKind.i64.wrap (t + m) * 1000000000)) (IntKind.i64.wrap (IntKind.i64.wrap (IntKind.i64.wrap (t + m) * 1000000000) + 999999999)) true) (Tree.ite (Lab.eqB (byL (noteT f (lps (lpRows (lps rs))) t) (IntKind.i64.wrap (t + m))) (labL f (lps (lpRows (lps rs))) (IntKind.i64.wrap (t + m)))) (Tree.ite (Lab.eqB (byL (noteT f (lps (lpRows (lps rs))) t) (IntKind.i64.wrap (IntKind.i64.wrap (t + m) * 1000000000) / 1000000000)) (labL f (lps (lpRows (lps rs))) (IntKind.i64.wrap (t + m)))) (Tree.leaf { v := V.bool (Lab.eqB (byL (noteT f (lps (lpRows (lps rs))) t) (IntKind.i64.wrap (IntKind.i64.wrap (IntKind.i64.wrap (t + m) * 1000000000) + 999999999) / 1000000000)) (labL f (lps (lpRows (lps rs))) (IntKind.i64.wrap (t + m)))), upd := [none], new := [] }) (Tree.leaf { v := V.fls, upd := [none], new := [] })) (Tree.leaf { v := V.fls, upd := [none], new := [] })) Tree.fail) Tree.fail) Tree.fail)) Tree.fail) Tree.fail)))) Tree.fail) Tree.fail) Tree.fail) Tree.fail))))) Tree.fail) from by kernel_rfl]
    rw [lps_rows, wrap64_id (n := t + m) (by omega) (by omega)]
    have eN : ∀ x, (⟨(lookF f (lps rs) x).1, fl61 (dayZ (labL f (lps rs) x).1 (labL f (lps rs) x).2 (labL f (lps rs) x).3) (decide (12 ≤ (labL f (lps rs) x).4)) false (lps rs), fl59 (dayZ (labL f (lps rs) x).1 (labL f (lps rs) x).2 (labL f (lps rs) x).3) (decide (12 ≤ (labL f (lps rs) x).4)) false (lps rs), true⟩ : Nte) = noteT f (lps rs) x := fun _ => rfl
    simp only [eN]
    obtain ⟨s1, s2, s3, s4, s5⟩ := span_T (T := t + m) (by omega) (by omega)
    simp only [denN_ite, denN_leaf, denN_fail, decide_eq_true h1, decide_eq_true h2, hg, decide_eq_true h0, okTA_lp hg h1 h0, hl, hm, s1, s2, s3, s4, s5, decide_eq_false (show ¬ t < 0 by omega), decide_eq_false (show ¬ t > 4294967296 by omega), decide_eq_false (show ¬ m < 0 by omega), decide_eq_false (show ¬ m > 86400 by omega), decide_eq_true (show t ≤ 9000000000000000000 by omega), decide_eq_true (show t + m ≤ 9000000000000000000 by omega)]
    by_cases d1 : (labL f (lps rs) t).1 = (labL f (lps rs) (t + m)).1
    case neg => rw [show ((labL f (lps rs) t).1 != (labL f (lps rs) (t + m)).1) = true by simpa using d1]; rfl
    by_cases d2 : (labL f (lps rs) t).2 = (labL f (lps rs) (t + m)).2
    case neg => rw [show ((labL f (lps rs) t).1 != (labL f (lps rs) (t + m)).1) = false by simpa using d1, show ((labL f (lps rs) t).2 != (labL f (lps rs) (t + m)).2) = true by simpa using d2]; rfl
    by_cases d3 : (labL f (lps rs) t).3 = (labL f (lps rs) (t + m)).3
    case neg => rw [show ((labL f (lps rs) t).1 != (labL f (lps rs) (t + m)).1) = false by simpa using d1, show ((labL f (lps rs) t).2 != (labL f (lps rs) (t + m)).2) = false by simpa using d2, show ((labL f (lps rs) t).3 != (labL f (lps rs) (t + m)).3) = true by simpa using d3]; rfl
    rw [show ((labL f (lps rs) t).1 != (labL f (lps rs) (t + m)).1) = false by simpa using d1, show ((labL f (lps rs) t).2 != (labL f (lps rs) (t + m)).2) = false by simpa using d2, show ((labL f (lps rs) t).3 != (labL f (lps rs) (t + m)).3) = false by simpa using d3]
    obtain ⟨k1, k2⟩ := told (t := t) (T := t + m) hg hl hm (by omega) (by omega) d1 d2 d3
    by_cases n1 : (labL f (lps rs) t).4 < 12
    · by_cases n2 : (labL f (lps rs) (t + m)).4 ≥ 12
      · obtain ⟨b1, b2⟩ := k1 ⟨n1, n2⟩
        have b3 := spsB_T (N := noteT f (lps rs) (t + m)) (T := t + m) (by omega) (by omega) b1
        rw [decide_eq_true n1, decide_eq_true n2]
        simp only [b1, b2, b3, Lab.eqB_self]
        rfl
      · obtain ⟨b1, b2⟩ := k2 (fun h => n2 h.2)
        have b3 := spsB_T (N := noteT f (lps rs) t) (T := t + m) (by omega) (by omega) b1
        rw [decide_eq_true n1, decide_eq_false n2]
        simp only [b1, b2, b3, Lab.eqB_self]
        rfl
    · obtain ⟨b1, b2⟩ := k2 (fun h => n1 h.1)
      have b3 := spsB_T (N := noteT f (lps rs) t) (T := t + m) (by omega) (by omega) b1
      rw [decide_eq_false n1]
      simp only [b1, b2, b3, Lab.eqB_self]
      rfl
  · simp [den_fail] at h
def lwToldN : Rx.Spec := fun a b => match a, b with
  | [.agg [.int .i64 f, .sl 0 0 0 2 n none], .int .i64 t, .int .i64 m], [.rows [.int .i64, .int .i64] rs] => .need (decide (n = rs.length) && (goodT f [] && tdC f [] t m) && decide (n = 0)) (.leaf ⟨.bool true, [none], []⟩)
  | _, _ => .fail
theorem lwToldN_ok : SpecOK P 10 lwToldN := by
  refine specOK_fast tlN_ok hm (Λ := loopsOf []) Tryd.func10 (by kernel_rfl) (LoopsOK.nil (by kernel_rfl)) ?_
  intro args bs r h
  unfold lwToldN at h
  split at h
  · rename_i f n t m rs
    rw [den_need, denLf] at h
    simp only [tdC, Bool.and_eq_true, decide_eq_true_eq] at h
    obtain ⟨⟨⟨h1, hg, ⟨⟨⟨⟨⟨c1, c2⟩, c3⟩, c4⟩, hl⟩, hm⟩⟩, h0⟩, h⟩ := h
    cases h
    rw [show (fFn P (specsOf tlN) (loopsOf []) Tryd.f10 [.agg [.int .i64 f, .sl 0 0 0 2 n none], .int .i64 t, .int .i64 m] [.rows lpK rs]).denN = Tree.denN (Tree.ite (decide (n = rs.length) && goodT f [] && decide (n = 0)) (Tree.ite (decide (t < 0)) (Tree.leaf { v := V.tru, upd := [none], new := [] }) (Tree.ite (decide (t > 4294967296)) (Tree.leaf { v := V.tru, upd := [none], new := [] }) (Tree.ite (decide (m < 0)) (Tree.leaf { v := V.tru, upd := [none], new := [] }) (Tree.ite (decide (m > 86400)) (Tree.leaf { v := V.tru, upd := [none], new := [] }) (Tree.ite (goodT f []) (Tree.ite (decide (t ≤ 9000000000000000000) && labB f [] t) (Tree.ite (goodT f []) (Tree.ite (decide (IntKind.i64.wrap (t + m) ≤ 9000000000000000000) && labB f [] (IntKind.i64.wrap (t + m))) (Tree.ite (dYear ((t - f) / 86400) != dYear ((IntKind.i64.wrap (t + m) - f) / 86400)) (Tree.leaf { v := V.tru, upd := [none], new := [] }) (Tree.ite (dMonth ((t - f) / 86400) != dMonth ((IntKind.i64.wrap (t + m) - f) / 86400)) (Tree.leaf { v := V.tru, upd := [none], new := [] }) (Tree.ite (dDay ((t - f) / 86400) != dDay ((IntKind.i64.wrap (t + m) - f) / 86400)) (Tree.leaf { v := V.tru, upd := [none], new := [] }) (Tree.ite (goodT f []) (Tree.ite (decide (t ≤ 9000000000000000000) && labB f [] t) (Tree.ite (decide ((t - f) % 86400 / 3600 < 12)) (Tree.ite (decide ((IntKind.i64.wrap (t + m) - f) % 86400 / 3600 ≥ 12)) (Tree.ite (goodT f []) (Tree.ite (decide (IntKind.i64.wrap (t + m) ≤ 9000000000000000000) && labB f [] (IntKind.i64.wrap (t + m))) (Tree.ite (byB { off := f, l61 := false, l59 := false, va := true } (IntKind.i64.wrap (t + m))) (Tree.ite (spB (IntKind.i64.wrap (IntKind.i64.wrap (t + m) * 1000000000)) (IntKind.i64.wrap (IntKind.i64.wrap (IntKind.i64.wrap (t + m) * 1000000000) + 999999999))) (Tree.ite (spsB { off := f, l61 := false, l59 := false, va := true } (IntKind.i64.wrap (IntKind.i64.wrap (t + m) * 1000000000)) (IntKind.i64.wrap (IntKind.i64.wrap (IntKind.i64.wrap (t + m) * 1000000000) + 999999999)) true) (Tree.ite ((byL (noteT f [] (IntKind.i64.wrap (t + m))) (IntKind.i64.wrap (t + m))).1 == dYear ((IntKind.i64.wrap (t + m) - f) / 86400) && ((byL (noteT f [] (IntKind.i64.wrap (t + m))) (IntKind.i64.wrap (t + m))).2 == dMonth ((IntKind.i64.wrap (t + m) - f) / 86400) && ((byL (noteT f [] (IntKind.i64.wrap (t + m))) (IntKind.i64.wrap (t + m))).3 == dDay ((IntKind.i64.wrap (t + m) - f) / 86400) && ((byL (noteT f [] (IntKind.i64.wrap (t + m))) (IntKind.i64.wrap (t + m))).4 == (IntKind.i64.wrap (t + m) - f) % 86400 / 3600 && ((byL (noteT f [] (IntKind.i64.wrap (t + m))) (IntKind.i64.wrap (t + m))).5 == (IntKind.i64.wrap (t + m) - f) % 3600 / 60 && ((byL (noteT f [] (IntKind.i64.wrap (t + m))) (IntKind.i64.wrap (t + m))).6 == (IntKind.i64.wrap (t + m) - f) % 60 && true)))))) (Tree.ite ((byL (noteT f [] (IntKind.i64.wrap (t + m))) (IntKind.i64.wrap (IntKind.i64.wrap (t + m) * 1000000000) / 1000000000)).1 == dYear ((IntKind.i64.wrap (t + m) - f) / 86400) && ((byL (noteT f [] (IntKind.i64.wrap (t + m))) (IntKind.i64.wrap (IntKind.i64.wrap (t + m) * 1000000000) / 1000000000)).2 == dMonth ((IntKind.i64.wrap (t + m) - f) / 86400) && ((byL (noteT f [] (IntKind.i64.wrap (t + m))) (IntKind.i64.wrap (IntKind.i64.wrap (t + m) * 1000000000) / 1000000000)).3 == dDay ((IntKind.i64.wrap (t + m) - f) / 86400) && ((byL (noteT f [] (IntKind.i64.wrap (t + m))) (IntKind.i64.wrap (IntKind.i64.wrap (t + m) * 1000000000) / 1000000000)).4 == (IntKind.i64.wrap (t + m) - f) % 86400 / 3600 && ((byL (noteT f [] (IntKind.i64.wrap (t + m))) (IntKind.i64.wrap (IntKind.i64.wrap (t + m) * 1000000000) / 1000000000)).5 == (IntKind.i64.wrap (t + m) - f) % 3600 / 60 && ((byL (noteT f [] (IntKind.i64.wrap (t + m))) (IntKind.i64.wrap (IntKind.i64.wrap (t + m) * 1000000000) / 1000000000)).6 == (IntKind.i64.wrap (t + m) - f) % 60 && true)))))) (Tree.leaf { v := V.bool ((byL (noteT f [] (IntKind.i64.wrap (t + m))) (IntKind.i64.wrap (IntKind.i64.wrap (IntKind.i64.wrap (t + m) * 1000000000) + 999999999) / 1000000000)).1 == dYear ((IntKind.i64.wrap (t + m) - f) / 86400) && ((byL (noteT f [] (IntKind.i64.wrap (t + m))) (IntKind.i64.wrap (IntKind.i64.wrap (IntKind.i64.wrap (t + m) * 1000000000) + 999999999) / 1000000000)).2 == dMonth ((IntKind.i64.wrap (t + m) - f) / 86400) && ((byL (noteT f [] (IntKind.i64.wrap (t + m))) (IntKind.i64.wrap (IntKind.i64.wrap (IntKind.i64.wrap (t + m) * 1000000000) + 999999999) / 1000000000)).3 == dDay ((IntKind.i64.wrap (t + m) - f) / 86400) && ((byL (noteT f [] (IntKind.i64.wrap (t + m))) (IntKind.i64.wrap (IntKind.i64.wrap (IntKind.i64.wrap (t + m) * 1000000000) + 999999999) / 1000000000)).4 == (IntKind.i64.wrap (t + m) - f) % 86400 / 3600 && ((byL (noteT f [] (IntKind.i64.wrap (t + m))) (IntKind.i64.wrap (IntKind.i64.wrap (IntKind.i64.wrap (t + m) * 1000000000) + 999999999) / 1000000000)).5 == (IntKind.i64.wrap (t + m) - f) % 3600 / 60 && ((byL (noteT f [] (IntKind.i64.wrap (t + m))) (IntKind.i64.wrap (IntKind.i64.wrap (IntKind.i64.wrap (t + m) * 1000000000) + 999999999) / 1000000000)).6 == (IntKind.i64.wrap (t + m) - f) % 60 && true)))))), upd := [none], new := [] }) (Tree.leaf { v := V.fls, upd := [none], new := [] })) (Tree.leaf { v := V.fls, upd := [none], new := [] })) Tree.fail) Tree.fail) Tree.fail) Tree.fail) Tree.fail) (Tree.ite (byB { off := f, l61 := false, l59 := false, va := true } (IntKind.i64.wrap (t + m))) (Tree.ite (spB (IntKind.i64.wrap (IntKind.i64.wrap (t + m) * 1000000000)) (IntKind.i64.wrap (IntKind.i64.wrap (IntKind.i64.wrap (t + m) * 1000000000) + 999999999))) (Tree.ite (spsB { off := f, l61 := false, l59 := false, va := true } (IntKind.i64.wrap (IntKind.i64.wrap (t + m) * 1000000000)) (IntKind.i64.wrap (IntKind.i64.wrap (IntKind.i64.wrap (t + m) * 1000000000) + 999999999)) true) (Tree.ite ((byL (noteT f [] t) (IntKind.i64.wrap (t + m))).1 == dYear ((IntKind.i64.wrap (t + m) - f) / 86400) && ((byL (noteT f [] t) (IntKind.i64.wrap (t + m))).2 == dMonth ((IntKind.i64.wrap (t + m) - f) / 86400) && ((byL (noteT f [] t) (IntKind.i64.wrap (t + m))).3 == dDay ((IntKind.i64.wrap (t + m) - f) / 86400) && ((byL (noteT f [] t) (IntKind.i64.wrap (t + m))).4 == (IntKind.i64.wrap (t + m) - f) % 86400 / 3600 && ((byL (noteT f [] t) (IntKind.i64.wrap (t + m))).5 == (IntKind.i64.wrap (t + m) - f) % 3600 / 60 && ((byL (noteT f [] t) (IntKind.i64.wrap (t + m))).6 == (IntKind.i64.wrap (t + m) - f) % 60 && true)))))) (Tree.ite ((byL (noteT f [] t) (IntKind.i64.wrap (IntKind.i64.wrap (t + m) * 1000000000) / 1000000000)).1 == dYear ((IntKind.i64.wrap (t + m) - f) / 86400) && ((byL (noteT f [] t) (IntKind.i64.wrap (IntKind.i64.wrap (t + m) * 1000000000) / 1000000000)).2 == dMonth ((IntKind.i64.wrap (t + m) - f) / 86400) && ((byL (noteT f [] t) (IntKind.i64.wrap (IntKind.i64.wrap (t + m) * 1000000000) / 1000000000)).3 == dDay ((IntKind.i64.wrap (t + m) - f) / 86400) && ((byL (noteT f [] t) (IntKind.i64.wrap (IntKind.i64.wrap (t + m) * 1000000000) / 1000000000)).4 == (IntKind.i64.wrap (t + m) - f) % 86400 / 3600 && ((byL (noteT f [] t) (IntKind.i64.wrap (IntKind.i64.wrap (t + m) * 1000000000) / 1000000000)).5 == (IntKind.i64.wrap (t + m) - f) % 3600 / 60 && ((byL (noteT f [] t) (IntKind.i64.wrap (IntKind.i64.wrap (t + m) * 1000000000) / 1000000000)).6 == (IntKind.i64.wrap (t + m) - f) % 60 && true)))))) (Tree.leaf { v := V.bool ((byL (noteT f [] t) (IntKind.i64.wrap (IntKind.i64.wrap (IntKind.i64.wrap (t + m) * 1000000000) + 999999999) / 1000000000)).1 == dYear ((IntKind.i64.wrap (t + m) - f) / 86400) && ((byL (noteT f [] t) (IntKind.i64.wrap (IntKind.i64.wrap (IntKind.i64.wrap (t + m) * 1000000000) + 999999999) / 1000000000)).2 == dMonth ((IntKind.i64.wrap (t + m) - f) / 86400) && ((byL (noteT f [] t) (IntKind.i64.wrap (IntKind.i64.wrap (IntKind.i64.wrap (t + m) * 1000000000) + 999999999) / 1000000000)).3 == dDay ((IntKind.i64.wrap (t + m) - f) / 86400) && ((byL (noteT f [] t) (IntKind.i64.wrap (IntKind.i64.wrap (IntKind.i64.wrap (t + m) * 1000000000) + 999999999) / 1000000000)).4 == (IntKind.i64.wrap (t + m) - f) % 86400 / 3600 && ((byL (noteT f [] t) (IntKind.i64.wrap (IntKind.i64.wrap (IntKind.i64.wrap (t + m) * 1000000000) + 999999999) / 1000000000)).5 == (IntKind.i64.wrap (t + m) - f) % 3600 / 60 && ((byL (noteT f [] t) (IntKind.i64.wrap (IntKind.i64.wrap (IntKind.i64.wrap (t + m) * 1000000000) + 999999999) / 1000000000)).6 == (IntKind.i64.wrap (t + m) - f) % 60 && true)))))), upd := [none], new := [] }) (Tree.leaf { v := V.fls, upd := [none], new := [] })) (Tree.leaf { v := V.fls, upd := [none], new := [] })) Tree.fail) Tree.fail) Tree.fail)) (Tree.ite (byB { off := f, l61 := false, l59 := false, va := true } (IntKind.i64.wrap (t + m))) (Tree.ite (spB (IntKind.i64.wrap (IntKind.i64.wrap (t + m) * 1000000000)) (IntKind.i64.wrap (IntKind.i64.wrap (IntKind.i64.wrap (t + m) * 1000000000) + 999999999))) (Tree.ite (spsB { off := f, l61 := false, l59 := false, va := true } (IntKind.i64.wrap (IntKind.i64.wrap (t + m) * 1000000000)) (IntKind.i64.wrap (IntKind.i64.wrap (IntKind.i64.wrap (t + m) * 1000000000) + 999999999)) true) (Tree.ite ((byL (noteT f [] t) (IntKind.i64.wrap (t + m))).1 == dYear ((IntKind.i64.wrap (t + m) - f) / 86400) && ((byL (noteT f [] t) (IntKind.i64.wrap (t + m))).2 == dMonth ((IntKind.i64.wrap (t + m) - f) / 86400) && ((byL (noteT f [] t) (IntKind.i64.wrap (t + m))).3 == dDay ((IntKind.i64.wrap (t + m) - f) / 86400) && ((byL (noteT f [] t) (IntKind.i64.wrap (t + m))).4 == (IntKind.i64.wrap (t + m) - f) % 86400 / 3600 && ((byL (noteT f [] t) (IntKind.i64.wrap (t + m))).5 == (IntKind.i64.wrap (t + m) - f) % 3600 / 60 && ((byL (noteT f [] t) (IntKind.i64.wrap (t + m))).6 == (IntKind.i64.wrap (t + m) - f) % 60 && true)))))) (Tree.ite ((byL (noteT f [] t) (IntKind.i64.wrap (IntKind.i64.wrap (t + m) * 1000000000) / 1000000000)).1 == dYear ((IntKind.i64.wrap (t + m) - f) / 86400) && ((byL (noteT f [] t) (IntKind.i64.wrap (IntKind.i64.wrap (t + m) * 1000000000) / 1000000000)).2 == dMonth ((IntKind.i64.wrap (t + m) - f) / 86400) && ((byL (noteT f [] t) (IntKind.i64.wrap (IntKind.i64.wrap (t + m) * 1000000000) / 1000000000)).3 == dDay ((IntKind.i64.wrap (t + m) - f) / 86400) && ((byL (noteT f [] t) (IntKind.i64.wrap (IntKind.i64.wrap (t + m) * 1000000000) / 1000000000)).4 == (IntKind.i64.wrap (t + m) - f) % 86400 / 3600 && ((byL (noteT f [] t) (IntKind.i64.wrap (IntKind.i64.wrap (t + m) * 1000000000) / 1000000000)).5 == (IntKind.i64.wrap (t + m) - f) % 3600 / 60 && ((byL (noteT f [] t) (IntKind.i64.wrap (IntKind.i64.wrap (t + m) * 1000000000) / 1000000000)).6 == (IntKind.i64.wrap (t + m) - f) % 60 && true)))))) (Tree.leaf { v := V.bool ((byL (noteT f [] t) (IntKind.i64.wrap (IntKind.i64.wrap (IntKind.i64.wrap (t + m) * 1000000000) + 999999999) / 1000000000)).1 == dYear ((IntKind.i64.wrap (t + m) - f) / 86400) && ((byL (noteT f [] t) (IntKind.i64.wrap (IntKind.i64.wrap (IntKind.i64.wrap (t + m) * 1000000000) + 999999999) / 1000000000)).2 == dMonth ((IntKind.i64.wrap (t + m) - f) / 86400) && ((byL (noteT f [] t) (IntKind.i64.wrap (IntKind.i64.wrap (IntKind.i64.wrap (t + m) * 1000000000) + 999999999) / 1000000000)).3 == dDay ((IntKind.i64.wrap (t + m) - f) / 86400) && ((byL (noteT f [] t) (IntKind.i64.wrap (IntKind.i64.wrap (IntKind.i64.wrap (t + m) * 1000000000) + 999999999) / 1000000000)).4 == (IntKind.i64.wrap (t + m) - f) % 86400 / 3600 && ((byL (noteT f [] t) (IntKind.i64.wrap (IntKind.i64.wrap (IntKind.i64.wrap (t + m) * 1000000000) + 999999999) / 1000000000)).5 == (IntKind.i64.wrap (t + m) - f) % 3600 / 60 && ((byL (noteT f [] t) (IntKind.i64.wrap (IntKind.i64.wrap (IntKind.i64.wrap (t + m) * 1000000000) + 999999999) / 1000000000)).6 == (IntKind.i64.wrap (t + m) - f) % 60 && true)))))), upd := [none], new := [] }) (Tree.leaf { v := V.fls, upd := [none], new := [] })) (Tree.leaf { v := V.fls, upd := [none], new := [] })) Tree.fail) Tree.fail) Tree.fail)) Tree.fail) Tree.fail)))) Tree.fail) Tree.fail) Tree.fail) Tree.fail))))) Tree.fail) from by kernel_rfl]
    rw [wrap64_id (n := t + m) (by omega) (by omega)]
    have eN : ∀ x, noteT f [] x = (⟨f, false, false, true⟩ : Nte) := fun _ => rfl
    obtain ⟨s1, s2, s3, s4, s5⟩ := span_T (T := t + m) (by omega) (by omega)
    by_cases d1 : dYear ((t - f) / 86400) = dYear ((t + m - f) / 86400)
    case neg =>
      simp only [denN_ite, denN_leaf, denN_fail, decide_eq_true h1, hg, decide_eq_true h0, hl, hm, decide_eq_false (show ¬ t < 0 by omega), decide_eq_false (show ¬ t > 4294967296 by omega), decide_eq_false (show ¬ m < 0 by omega), decide_eq_false (show ¬ m > 86400 by omega), decide_eq_true (show t ≤ 9000000000000000000 by omega), decide_eq_true (show t + m ≤ 9000000000000000000 by omega)]
      rw [show (dYear ((t - f) / 86400) != dYear ((t + m - f) / 86400)) = true by simpa using d1]; rfl
    by_cases d2 : dMonth ((t - f) / 86400) = dMonth ((t + m - f) / 86400)
    case neg =>
      simp only [denN_ite, denN_leaf, denN_fail, decide_eq_true h1, hg, decide_eq_true h0, hl, hm, decide_eq_false (show ¬ t < 0 by omega), decide_eq_false (show ¬ t > 4294967296 by omega), decide_eq_false (show ¬ m < 0 by omega), decide_eq_false (show ¬ m > 86400 by omega), decide_eq_true (show t ≤ 9000000000000000000 by omega), decide_eq_true (show t + m ≤ 9000000000000000000 by omega)]
      rw [show (dYear ((t - f) / 86400) != dYear ((t + m - f) / 86400)) = false by simpa using d1, show (dMonth ((t - f) / 86400) != dMonth ((t + m - f) / 86400)) = true by simpa using d2]; rfl
    by_cases d3 : dDay ((t - f) / 86400) = dDay ((t + m - f) / 86400)
    case neg =>
      simp only [denN_ite, denN_leaf, denN_fail, decide_eq_true h1, hg, decide_eq_true h0, hl, hm, decide_eq_false (show ¬ t < 0 by omega), decide_eq_false (show ¬ t > 4294967296 by omega), decide_eq_false (show ¬ m < 0 by omega), decide_eq_false (show ¬ m > 86400 by omega), decide_eq_true (show t ≤ 9000000000000000000 by omega), decide_eq_true (show t + m ≤ 9000000000000000000 by omega)]
      rw [show (dYear ((t - f) / 86400) != dYear ((t + m - f) / 86400)) = false by simpa using d1, show (dMonth ((t - f) / 86400) != dMonth ((t + m - f) / 86400)) = false by simpa using d2, show (dDay ((t - f) / 86400) != dDay ((t + m - f) / 86400)) = true by simpa using d3]; rfl
    obtain ⟨k1, k2⟩ := told (t := t) (T := t + m) hg hl hm (by omega) (by omega) d1 d2 d3
    have kk : byB (⟨f, false, false, true⟩ : Nte) (t + m) = true ∧ byL (⟨f, false, false, true⟩ : Nte) (t + m) = ofL (t + m - f) := by
      by_cases hh : ((labL f [] t).h < 12 ∧ 12 ≤ (labL f [] (t + m)).h)
      · exact k1 hh
      · exact k2 hh
    obtain ⟨b1, b2⟩ := kk
    have b3 := spsB_T (T := t + m) (by omega) (by omega) b1
    simp only [denN_ite, denN_leaf, denN_fail, decide_eq_true h1, hg, decide_eq_true h0, hl, hm, decide_eq_false (show ¬ t < 0 by omega), decide_eq_false (show ¬ t > 4294967296 by omega), decide_eq_false (show ¬ m < 0 by omega), decide_eq_false (show ¬ m > 86400 by omega), decide_eq_true (show t ≤ 9000000000000000000 by omega), decide_eq_true (show t + m ≤ 9000000000000000000 by omega), eN, s1, s2, s3, s4, s5, b1, b2, b3, Lab.eqB_self, d1, d2, d3, bne_self_eq_false]
    simp only [ofL, beq_self_eq_true, Bool.and_self]
    generalize decide ((t - f) % 86400 / 3600 < 12) = z1
    generalize decide ((t + m - f) % 86400 / 3600 ≥ 12) = z2
    cases z1 <;> cases z2 <;> rfl
  · simp [den_fail] at h
def lwToldS : Rx.Spec := fun a b => match a, b with
  | [.agg [.int .i64 f, .sl 0 0 0 2 n none], .int .i64 t, .int .i64 m], [.rows [.int .i64, .int .i64] rs] => .need (decide (n = rs.length) && decide (n * 16 ≤ 140737488351232)) (.leaf ⟨.bool true, [none], []⟩)
  | _, _ => .fail
theorem lwTold_ok : SpecOK P 10 lwToldS := by
  have h2 : SpecOK P 10 (fun a b => match a, b with
    | [.agg [.int .i64 f, .sl 0 0 0 2 n none], .int .i64 t, .int .i64 m], [.rows [.int .i64, .int .i64] rs] => .need (decide (n = rs.length) && decide (n * 16 ≤ 140737488351232) && (goodT f (lps rs) && tdC f (lps rs) t m)) (.leaf ⟨.bool true, [none], []⟩)
    | _, _ => .fail) := by
    refine specOr lwToldA_ok lwToldN_ok fun args bs r h => ?_
    split at h
    · rename_i f n t m rs
      rw [den_need, denLf] at h
      obtain ⟨hc, h⟩ := h
      have hc' := hc
      simp only [Bool.and_eq_true, decide_eq_true_eq] at hc
      obtain ⟨⟨h1, h2⟩, hg, ht⟩ := hc
      by_cases h0 : n = 0
      · right
        have e : lps rs = [] := lps_nil (by omega)
        rw [e] at hg ht
        show (Tree.need (decide (n = rs.length) && (goodT f [] && tdC f [] t m) && decide (n = 0)) (.leaf _)).den = _
        rw [decide_eq_true h1, hg, ht, decide_eq_true h0]; exact h
      · left
        show (Tree.need (decide (n = rs.length) && decide (n * 16 ≤ 140737488351232) && (goodT f (lps rs) && tdC f (lps rs) t m) && decide (n ≠ 0)) (.leaf _)).den = _
        rw [hc', decide_eq_true h0]; exact h
    · simp [den_fail] at h
  refine specOr lwToldE_ok h2 fun args bs r h => ?_
  unfold lwToldS at h
  split at h
  · rename_i f n t m rs
    rw [den_need, denLf] at h
    obtain ⟨hc, h⟩ := h
    cases hx : (goodT f (lps rs) && tdC f (lps rs) t m) with
    | false =>
      left
      show (Tree.need (decide (n = rs.length) && decide (n * 16 ≤ 140737488351232) && !(goodT f (lps rs) && tdC f (lps rs) t m)) (.leaf _)).den = _
      rw [hc, hx]; exact h
    | true =>
      right
      show (Tree.need (decide (n = rs.length) && decide (n * 16 ≤ 140737488351232) && true) (.leaf _)).den = _
      rw [hc]; exact h
  · simp [den_fail] at h
end Go.Proofs.YtbfiaogmfjadeaaDoor
