/- Layer 16: what was said, spans, and a table of leaps. The conditions stand in the specifications. -/
import Derived.Test.YtbfiaogmfjadeaaDoorLpA
import Derived.Test.YtbfiaogmfjadeaaDoorRxB
set_option linter.unusedSimpArgs false
set_option linter.unusedVariables false
set_option linter.unnecessarySimpa false
set_option linter.unusedSectionVars false
set_option maxRecDepth 100000
set_option linter.unusedSimpArgs false
set_option linter.unusedVariables false
namespace Go.Proofs.YtbfiaogmfjadeaaDoor
open Go.Rx

theorem tmod_zb (x : Int) : (x.tmod 86400 == 0) = decide (x % 86400 = 0) := by
  rw [Bool.eq_iff_iff, beq_iff_eq, decide_eq_true_eq]
  exact ⟨fun h => Int.emod_eq_zero_of_dvd (Int.dvd_of_tmod_eq_zero h), fun h => Int.tmod_eq_zero_of_dvd (Int.dvd_of_emod_eq_zero h)⟩
theorem tdiv_bd {x : Int} (h0 : -9000000000000000000 ≤ x) (h1 : x ≤ 9000000000000000000) : -9000000000000000000 ≤ x.tdiv 86400 * 86400 ∧ x.tdiv 86400 * 86400 ≤ 9000000000000000000 := by
  have e := Int.mul_tdiv_add_tmod x 86400
  by_cases hx : 0 ≤ x
  · rw [Int.tdiv_eq_ediv_of_nonneg hx]; omega
  · have e2 : x.tdiv 86400 = -((-x) / 86400) := by rw [← Int.tdiv_eq_ediv_of_nonneg (by omega), Int.neg_tdiv, Int.neg_neg]
    rw [e2]; omega
theorem tdiv_wr {x : Int} (h0 : -9000000000000000000 ≤ x) (h1 : x ≤ 9000000000000000000) : IntKind.i64.wrap (x.tdiv 86400) = x.tdiv 86400 := by
  have := tdiv_bd h0 h1
  exact wrap64_id (by omega) (by omega)
theorem tdiv_zb {x : Int} (h0 : -9000000000000000000 ≤ x) (h1 : x ≤ 9000000000000000000) : (IntKind.i64.wrap (x.tdiv 86400 * 86400) == x) = decide (x % 86400 = 0) := by
  have h2 := tdiv_bd h0 h1
  rw [wrap64_id (by omega) (by omega), ← tmod_zb, Bool.eq_iff_iff, beq_iff_eq, beq_iff_eq]
  have e := Int.mul_tdiv_add_tmod x 86400
  omega
def sixL (n : Int) : Lab := ⟨dYear n, dMonth n, dDay n, 23, 59, 60⟩
def sixS : Rx.Spec := fun a b => match a, b with
  | [.int .i64 n], [] => .need (decide (n ≤ 9223372036854775807)) (.ite (dateB n) (.leaf ⟨.tup [(sixL n).v, .bool true], [], []⟩) (.leaf ⟨.tup [Lab.zero.v, .bool false], [], []⟩))
  | _, _ => .fail
theorem six_ok : SpecOK P 34 sixS := by
  refine specOK_fast ofG_ok hm (Λ := loopsOf []) Tryd.func34 (by kernel_rfl) (LoopsOK.nil (by kernel_rfl)) ?_
  intro args bs r h
  unfold sixS at h
  split at h
  · rename_i n
    rw [show (fFn P (specsOf ofG) (loopsOf []) Tryd.f34 [.int .i64 n] []).denN = Tree.denN (Tree.ite (dateB n) (Tree.leaf { v := V.tup [V.agg [V.int IntKind.i64 (dYear n), V.int IntKind.i64 (dMonth n), V.int IntKind.i64 (dDay n), V.int IntKind.i64 23, V.int IntKind.i64 59, V.int IntKind.i64 60], V.tru], upd := [], new := [] }) (Tree.leaf { v := V.tup [V.agg [V.int IntKind.i64 0, V.int IntKind.i64 0, V.int IntKind.i64 0, V.int IntKind.i64 0, V.int IntKind.i64 0, V.int IntKind.i64 0], V.fls], upd := [], new := [] })) from by kernel_rfl]
    simp only [denN_ite, denN_leaf, denN_fail]
    rw [den_need, denI, denLf, denLf] at h
    obtain ⟨hn, h⟩ := h
    simp only [decide_eq_true_eq] at hn
    cases e : dateB n <;> rw [e] at h <;> cases h <;> rfl
  · simp [den_fail] at h
theorem refSix_ok : SpecOK P 35 sixS := by
  refine specOK_fast rofG_ok hm (Λ := loopsOf []) Tryd.func35 (by kernel_rfl) (LoopsOK.nil (by kernel_rfl)) ?_
  intro args bs r h
  unfold sixS at h
  split at h
  · rename_i n
    rw [show (fFn P (specsOf rofG) (loopsOf []) Tryd.f35 [.int .i64 n] []).denN = Tree.denN (Tree.ite (decide (n ≤ 9223372036854775807)) (Tree.ite (dateB n) (Tree.leaf { v := V.tup [V.agg [V.int IntKind.i64 (dYear n), V.int IntKind.i64 (dMonth n), V.int IntKind.i64 (dDay n), V.int IntKind.i64 23, V.int IntKind.i64 59, V.int IntKind.i64 60], V.bool true], upd := [], new := [] }) (Tree.leaf { v := V.tup [V.agg [V.int IntKind.i64 0, V.int IntKind.i64 0, V.int IntKind.i64 0, V.int IntKind.i64 0, V.int IntKind.i64 0, V.int IntKind.i64 0], V.bool false], upd := [], new := [] })) Tree.fail) from by kernel_rfl]
    simp only [denN_ite, denN_leaf, denN_fail]
    rw [den_need, denI, denLf, denLf] at h
    obtain ⟨hn, h⟩ := h
    simp only [decide_eq_true_eq] at hn
    rw [if_pos (by simpa using hn)]
    cases e : dateB n <;> rw [e] at h <;> cases h <;> rfl
  · simp [den_fail] at h
/-- What is said lets a label be. -/
def byG (n : Nte) (t : Int) : Bool := n.va && !(n.l61 && n.l59) && decide (-32768 ≤ n.off) && decide (n.off < 32768) && decide (0 ≤ t) && decide (t ≤ 1099511627776)
def bySix (n : Nte) (t : Int) : Bool := n.l61 && decide (t - n.off > 0) && decide ((t - n.off) % 86400 = 0)
def byU (n : Nte) (t : Int) : Int := if n.l59 && decide ((t - n.off + 1) % 86400 = 0) then t - n.off + 1 else t - n.off
def byB (n : Nte) (t : Int) : Bool := byG n t && (if bySix n t then dateB ((t - n.off) / 86400 - 1) else ofB (byU n t))
def byL (n : Nte) (t : Int) : Lab := if byB n t then (if bySix n t then sixL ((t - n.off) / 86400 - 1) else ofL (byU n t)) else Lab.zero
def byS : Rx.Spec := fun a b => match a, b with
  | [v, .int .i64 t], [] => match Nte.of v with
    | some n => .ite (byB n t) (.leaf ⟨.tup [(byL n t).v, .bool true], [], []⟩) (.leaf ⟨.tup [(byL n t).v, .bool false], [], []⟩)
    | none => .fail
  | _, _ => .fail
abbrev byGa : List (Nat × Rx.Spec) := [(34, sixS), (22, ofS)]
theorem byGa_ok : GammaOK P byGa := .cons six_ok (.cons of_ok (.nil P))
abbrev rbyGa : List (Nat × Rx.Spec) := [(35, sixS), (36, ofS)]
theorem rbyGa_ok : GammaOK P rbyGa := .cons refSix_ok (.cons refOf_ok (.nil P))
theorem by_ok : SpecOK P 27 byS := by
  refine specOK_fast byGa_ok hm (Λ := loopsOf []) Tryd.func27 (by kernel_rfl) (LoopsOK.nil (by kernel_rfl)) ?_
  intro args bs r h
  unfold byS at h
  split at h
  · split at h
    · rename_i v t _ n hn
      rw [Nte.of_eq hn]
      rw [denI, denLf, denLf] at h
      rw [show (fFn P (specsOf byGa) (loopsOf []) Tryd.f27 [n.v, .int .i64 t] []).denN = Tree.denN (Tree.ite (!n.4) (Tree.leaf { v := V.tup [V.agg [V.int IntKind.i64 0, V.int IntKind.i64 0, V.int IntKind.i64 0, V.int IntKind.i64 0, V.int IntKind.i64 0, V.int IntKind.i64 0], V.fls], upd := [], new := [] }) (Tree.ite n.2 (Tree.ite n.3 (Tree.leaf { v := V.tup [V.agg [V.int IntKind.i64 0, V.int IntKind.i64 0, V.int IntKind.i64 0, V.int IntKind.i64 0, V.int IntKind.i64 0, V.int IntKind.i64 0], V.fls], upd := [], new := [] }) (Tree.ite (decide (n.1 < -32768)) (Tree.leaf { v := V.tup [V.agg [V.int IntKind.i64 0, V.int IntKind.i64 0, V.int IntKind.i64 0, V.int IntKind.i64 0, V.int IntKind.i64 0, V.int IntKind.i64 0], V.fls], upd := [], new := [] }) (Tree.ite (decide (n.1 ≥ 32768)) (Tree.leaf { v := V.tup [V.agg [V.int IntKind.i64 0, V.int IntKind.i64 0, V.int IntKind.i64 0, V.int IntKind.i64 0, V.int IntKind.i64 0, V.int IntKind.i64 0], V.fls], upd := [], new := [] }) (Tree.ite (decide (t < 0)) (Tree.leaf { v := V.tup [V.agg [V.int IntKind.i64 0, V.int IntKind.i64 0, V.int IntKind.i64 0, V.int IntKind.i64 0, V.int IntKind.i64 0, V.int IntKind.i64 0], V.fls], upd := [], new := [] }) (Tree.ite (decide (t > 1099511627776)) (Tree.leaf { v := V.tup [V.agg [V.int IntKind.i64 0, V.int IntKind.i64 0, V.int IntKind.i64 0, V.int IntKind.i64 0, V.int IntKind.i64 0, V.int IntKind.i64 0], V.fls], upd := [], new := [] }) (Tree.ite n.2 (Tree.ite (decide (IntKind.i64.wrap (t - n.1) > 0)) (Tree.ite ((IntKind.i64.wrap (t - n.1)).tmod 86400 == 0) (Tree.ite (decide (IntKind.i64.wrap (IntKind.i64.wrap ((IntKind.i64.wrap (t - n.1)).tdiv 86400) - 1) ≤ 9223372036854775807)) (Tree.ite (dateB (IntKind.i64.wrap (IntKind.i64.wrap ((IntKind.i64.wrap (t - n.1)).tdiv 86400) - 1))) (Tree.leaf { v := V.tup [V.agg [V.int IntKind.i64 (dYear (IntKind.i64.wrap (IntKind.i64.wrap ((IntKind.i64.wrap (t - n.1)).tdiv 86400) - 1))), V.int IntKind.i64 (dMonth (IntKind.i64.wrap (IntKind.i64.wrap ((IntKind.i64.wrap (t - n.1)).tdiv 86400) - 1))), V.int IntKind.i64 (dDay (IntKind.i64.wrap (IntKind.i64.wrap ((IntKind.i64.wrap (t - n.1)).tdiv 86400) - 1))), V.int IntKind.i64 23, V.int IntKind.i64 59, V.int IntKind.i64 60], V.bool true], upd := [], new := [] }) (Tree.leaf { v := V.tup [V.agg [V.int IntKind.i64 0, V.int IntKind.i64 0, V.int IntKind.i64 0, V.int IntKind.i64 0, V.int IntKind.i64 0, V.int IntKind.i64 0], V.bool false], upd := [], new := [] })) Tree.fail) (Tree.ite n.3 (Tree.ite ((IntKind.i64.wrap (IntKind.i64.wrap (t - n.1) + 1)).tmod 86400 == 0) (Tree.ite (decide (IntKind.i64.wrap (IntKind.i64.wrap (t - n.1) + 1) ≤ 9223372036854775807)) (Tree.ite (ofB (IntKind.i64.wrap (IntKind.i64.wrap (t - n.1) + 1))) (Tree.leaf { v := V.tup [V.agg [V.int IntKind.i64 (dYear (IntKind.i64.wrap (IntKind.i64.wrap (t - n.1) + 1) / 86400)), V.int IntKind.i64 (dMonth (IntKind.i64.wrap (IntKind.i64.wrap (t - n.1) + 1) / 86400)), V.int IntKind.i64 (dDay (IntKind.i64.wrap (IntKind.i64.wrap (t - n.1) + 1) / 86400)), V.int IntKind.i64 (IntKind.i64.wrap (IntKind.i64.wrap (t - n.1) + 1) % 86400 / 3600), V.int IntKind.i64 (IntKind.i64.wrap (IntKind.i64.wrap (t - n.1) + 1) % 3600 / 60), V.int IntKind.i64 (IntKind.i64.wrap (IntKind.i64.wrap (t - n.1) + 1) % 60)], V.bool true], upd := [], new := [] }) (Tree.leaf { v := V.tup [V.agg [V.int IntKind.i64 0, V.int IntKind.i64 0, V.int IntKind.i64 0, V.int IntKind.i64 0, V.int IntKind.i64 0, V.int IntKind.i64 0], V.bool false], upd := [], new := [] })) Tree.fail) (Tree.ite (decide (IntKind.i64.wrap (t - n.1) ≤ 9223372036854775807)) (Tree.ite (ofB (IntKind.i64.wrap (t - n.1))) (Tree.leaf { v := V.tup [V.agg [V.int IntKind.i64 (dYear (IntKind.i64.wrap (t - n.1) / 86400)), V.int IntKind.i64 (dMonth (IntKind.i64.wrap (t - n.1) / 86400)), V.int IntKind.i64 (dDay (IntKind.i64.wrap (t - n.1) / 86400)), V.int IntKind.i64 (IntKind.i64.wrap (t - n.1) % 86400 / 3600), V.int IntKind.i64 (IntKind.i64.wrap (t - n.1) % 3600 / 60), V.int IntKind.i64 (IntKind.i64.wrap (t - n.1) % 60)], V.bool true], upd := [], new := [] }) (Tree.leaf { v := V.tup [V.agg [V.int IntKind.i64 0, V.int IntKind.i64 0, V.int IntKind.i64 0, V.int IntKind.i64 0, V.int IntKind.i64 0, V.int IntKind.i64 0], V.bool false], upd := [], new := [] })) Tree.fail)) (Tree.ite (decide (IntKind.i64.wrap (t - n.1) ≤ 9223372036854775807)) (Tree.ite (ofB (IntKind.i64.wrap (t - n.1))) (Tree.leaf { v := V.tup [V.agg [V.int IntKind.i64 (dYear (IntKind.i64.wrap (t - n.1) / 86400)), V.int IntKind.i64 (dMonth (IntKind.i64.wrap (t - n.1) / 86400)), V.int IntKind.i64 (dDay (IntKind.i64.wrap (t - n.1) / 86400)), V.int IntKind.i64 (IntKind.i64.wrap (t - n.1) % 86400 / 3600), V.int IntKind.i64 (IntKind.i64.wrap (t - n.1) % 3600 / 60), V.int IntKind.i64 (IntKind.i64.wrap (t - n.1) % 60)], V.bool true], upd := [], new := [] }) (Tree.leaf { v := V.tup [V.agg [V.int IntKind.i64 0, V.int IntKind.i64 0, V.int IntKind.i64 0, V.int IntKind.i64 0, V.int IntKind.i64 0, V.int IntKind.i64 0], V.bool false], upd := [], new := [] })) Tree.fail))) (Tree.ite n.3 (Tree.ite ((IntKind.i64.wrap (IntKind.i64.wrap (t - n.1) + 1)).tmod 86400 == 0) (Tree.ite (decide (IntKind.i64.wrap (IntKind.i64.wrap (t - n.1) + 1) ≤ 9223372036854775807)) (Tree.ite (ofB (IntKind.i64.wrap (IntKind.i64.wrap (t - n.1) + 1))) (Tree.leaf { v := V.tup [V.agg [V.int IntKind.i64 (dYear (IntKind.i64.wrap (IntKind.i64.wrap (t - n.1) + 1) / 86400)), V.int IntKind.i64 (dMonth (IntKind.i64.wrap (IntKind.i64.wrap (t - n.1) + 1) / 86400)), V.int IntKind.i64 (dDay (IntKind.i64.wrap (IntKind.i64.wrap (t - n.1) + 1) / 86400)), V.int IntKind.i64 (IntKind.i64.wrap (IntKind.i64.wrap (t - n.1) + 1) % 86400 / 3600), V.int IntKind.i64 (IntKind.i64.wrap (IntKind.i64.wrap (t - n.1) + 1) % 3600 / 60), V.int IntKind.i64 (IntKind.i64.wrap (IntKind.i64.wrap (t - n.1) + 1) % 60)], V.bool true], upd := [], new := [] }) (Tree.leaf { v := V.tup [V.agg [V.int IntKind.i64 0, V.int IntKind.i64 0, V.int IntKind.i64 0, V.int IntKind.i64 0, V.int IntKind.i64 0, V.int IntKind.i64 0], V.bool false], upd := [], new := [] })) Tree.fail) (Tree.ite (decide (IntKind.i64.wrap (t - n.1) ≤ 9223372036854775807)) (Tree.ite (ofB (IntKind.i64.wrap (t - n.1))) (Tree.leaf { v := V.tup [V.agg [V.int IntKind.i64 (dYear (IntKind.i64.wrap (t - n.1) / 86400)), V.int IntKind.i64 (dMonth (IntKind.i64.wrap (t - n.1) / 86400)), V.int IntKind.i64 (dDay (IntKind.i64.wrap (t - n.1) / 86400)), V.int IntKind.i64 (IntKind.i64.wrap (t - n.1) % 86400 / 3600), V.int IntKind.i64 (IntKind.i64.wrap (t - n.1) % 3600 / 60), V.int IntKind.i64 (IntKind.i64.wrap (t - n.1) % 60)], V.bool true], upd := [], new := [] }) (Tree.leaf { v := V.tup [V.agg [V.int IntKind.i64 0, V.int IntKind.i64 0, V.int IntKind.i64 0, V.int IntKind.i64 0, V.int IntKind.i64 0, V.int IntKind.i64 0], V.bool false], upd := [], new := [] })) Tree.fail)) (Tree.ite (decide (IntKind.i64.wrap (t - n.1) ≤ 9223372036854775807)) (Tree.ite (ofB (IntKind.i64.wrap (t - n.1))) (Tree.leaf { v := V.tup [V.agg [V.int IntKind.i64 (dYear (IntKind.i64.wrap (t - n.1) / 86400)), V.int IntKind.i64 (dMonth (IntKind.i64.wrap (t - n.1) / 86400)), V.int IntKind.i64 (dDay (IntKind.i64.wrap (t - n.1) / 86400)), V.int IntKind.i64 (IntKind.i64.wrap (t - n.1) % 86400 / 3600), V.int IntKind.i64 (IntKind.i64.wrap (t - n.1) % 3600 / 60), V.int IntKind.i64 (IntKind.i64.wrap (t - n.1) % 60)], V.bool true], upd := [], new := [] }) (Tree.leaf { v := V.tup [V.agg [V.int IntKind.i64 0, V.int IntKind.i64 0, V.int IntKind.i64 0, V.int IntKind.i64 0, V.int IntKind.i64 0, V.int IntKind.i64 0], V.bool false], upd := [], new := [] })) Tree.fail))) (Tree.ite n.3 (Tree.ite ((IntKind.i64.wrap (IntKind.i64.wrap (t - n.1) + 1)).tmod 86400 == 0) (Tree.ite (decide (IntKind.i64.wrap (IntKind.i64.wrap (t - n.1) + 1) ≤ 9223372036854775807)) (Tree.ite (ofB (IntKind.i64.wrap (IntKind.i64.wrap (t - n.1) + 1))) (Tree.leaf { v := V.tup [V.agg [V.int IntKind.i64 (dYear (IntKind.i64.wrap (IntKind.i64.wrap (t - n.1) + 1) / 86400)), V.int IntKind.i64 (dMonth (IntKind.i64.wrap (IntKind.i64.wrap (t - n.1) + 1) / 86400)), V.int IntKind.i64 (dDay (IntKind.i64.wrap (IntKind.i64.wrap (t - n.1) + 1) / 86400)), V.int IntKind.i64 (IntKind.i64.wrap (IntKind.i64.wrap (t - n.1) + 1) % 86400 / 3600), V.int IntKind.i64 (IntKind.i64.wrap (IntKind.i64.wrap (t - n.1) + 1) % 3600 / 60), V.int IntKind.i64 (IntKind.i64.wrap (IntKind.i64.wrap (t - n.1) + 1) % 60)], V.bool true], upd := [], new := [] }) (Tree.leaf { v := V.tup [V.agg [V.int IntKind.i64 0, V.int IntKind.i64 0, V.int IntKind.i64 0, V.int IntKind.i64 0, V.int IntKind.i64 0, V.int IntKind.i64 0], V.bool false], upd := [], new := [] })) Tree.fail) (Tree.ite (decide (IntKind.i64.wrap (t - n.1) ≤ 9223372036854775807)) (Tree.ite (ofB (IntKind.i64.wrap (t - n.1))) (Tree.leaf { v := V.tup [V.agg [V.int IntKind.i64 (dYear (IntKind.i64.wrap (t - n.1) / 86400)), V.int IntKind.i64 (dMonth (IntKind.i64.wrap (t - n.1) / 86400)), V.int IntKind.i64 (dDay (IntKind.i64.wrap (t - n.1) / 86400)), V.int IntKind.i64 (IntKind.i64.wrap (t - n.1) % 86400 / 3600), V.int IntKind.i64 (IntKind.i64.wrap (t - n.1) % 3600 / 60), V.int IntKind.i64 (IntKind.i64.wrap (t - n.1) % 60)], V.bool true], upd := [], new := [] }) (Tree.leaf { v := V.tup [V.agg [V.int IntKind.i64 0, V.int IntKind.i64 0, V.int IntKind.i64 0, V.int IntKind.i64 0, V.int IntKind.i64 0, V.int IntKind.i64 0], V.bool false], upd := [], new := [] })) Tree.fail)) (Tree.ite (decide (IntKind.i64.wrap (t - n.1) ≤ 9223372036854775807)) (Tree.ite (ofB (IntKind.i64.wrap (t - n.1))) (Tree.leaf { v := V.tup [V.agg [V.int IntKind.i64 (dYear (IntKind.i64.wrap (t - n.1) / 86400)), V.int IntKind.i64 (dMonth (IntKind.i64.wrap (t - n.1) / 86400)), V.int IntKind.i64 (dDay (IntKind.i64.wrap (t - n.1) / 86400)), V.int IntKind.i64 (IntKind.i64.wrap (t - n.1) % 86400 / 3600), V.int IntKind.i64 (IntKind.i64.wrap (t - n.1) % 3600 / 60), V.int IntKind.i64 (IntKind.i64.wrap (t - n.1) % 60)], V.bool true], upd := [], new := [] }) (Tree.leaf { v := V.tup [V.agg [V.int IntKind.i64 0, V.int IntKind.i64 0, V.int IntKind.i64 0, V.int IntKind.i64 0, V.int IntKind.i64 0, V.int IntKind.i64 0], V.bool false], upd := [], new := [] })) Tree.fail)))))))) (Tree.ite (decide (n.1 < -32768)) (Tree.leaf { v := V.tup [V.agg [V.int IntKind.i64 0, V.int IntKind.i64 0, V.int IntKind.i64 0, V.int IntKind.i64 0, V.int IntKind.i64 0, V.int IntKind.i64 0], V.fls], upd := [], new := [] }) (Tree.ite (decide (n.1 ≥ 32768)) (Tree.leaf { v := V.tup [V.agg [V.int IntKind.i64 0, V.int IntKind.i64 0, V.int IntKind.i64 0, V.int IntKind.i64 0, V.int IntKind.i64 0, V.int IntKind.i64 0], V.fls], upd := [], new := [] }) (Tree.ite (decide (t < 0)) (Tree.leaf { v := V.tup [V.agg [V.int IntKind.i64 0, V.int IntKind.i64 0, V.int IntKind.i64 0, V.int IntKind.i64 0, V.int IntKind.i64 0, V.int IntKind.i64 0], V.fls], upd := [], new := [] }) (Tree.ite (decide (t > 1099511627776)) (Tree.leaf { v := V.tup [V.agg [V.int IntKind.i64 0, V.int IntKind.i64 0, V.int IntKind.i64 0, V.int IntKind.i64 0, V.int IntKind.i64 0, V.int IntKind.i64 0], V.fls], upd := [], new := [] }) (Tree.ite n.2 (Tree.ite (decide (IntKind.i64.wrap (t - n.1) > 0)) (Tree.ite ((IntKind.i64.wrap (t - n.1)).tmod 86400 == 0) (Tree.ite (decide (IntKind.i64.wrap (IntKind.i64.wrap ((IntKind.i64.wrap (t - n.1)).tdiv 86400) - 1) ≤ 9223372036854775807)) (Tree.ite (dateB (IntKind.i64.wrap (IntKind.i64.wrap ((IntKind.i64.wrap (t - n.1)).tdiv 86400) - 1))) (Tree.leaf { v := V.tup [V.agg [V.int IntKind.i64 (dYear (IntKind.i64.wrap (IntKind.i64.wrap ((IntKind.i64.wrap (t - n.1)).tdiv 86400) - 1))), V.int IntKind.i64 (dMonth (IntKind.i64.wrap (IntKind.i64.wrap ((IntKind.i64.wrap (t - n.1)).tdiv 86400) - 1))), V.int IntKind.i64 (dDay (IntKind.i64.wrap (IntKind.i64.wrap ((IntKind.i64.wrap (t - n.1)).tdiv 86400) - 1))), V.int IntKind.i64 23, V.int IntKind.i64 59, V.int IntKind.i64 60], V.bool true], upd := [], new := [] }) (Tree.leaf { v := V.tup [V.agg [V.int IntKind.i64 0, V.int IntKind.i64 0, V.int IntKind.i64 0, V.int IntKind.i64 0, V.int IntKind.i64 0, V.int IntKind.i64 0], V.bool false], upd := [], new := [] })) Tree.fail) (Tree.ite n.3 (Tree.ite ((IntKind.i64.wrap (IntKind.i64.wrap (t - n.1) + 1)).tmod 86400 == 0) (Tree.ite (decide (IntKind.i64.wrap (IntKind.i64.wrap (t - n.1) + 1) ≤ 9223372036854775807)) (Tree.ite (ofB (IntKind.i64.wrap (IntKind.i64.wrap (t - n.1) + 1))) (Tree.leaf { v := V.tup [V.agg [V.int IntKind.i64 (dYear (IntKind.i64.wrap (IntKind.i64.wrap (t - n.1) + 1) / 86400)), V.int IntKind.i64 (dMonth (IntKind.i64.wrap (IntKind.i64.wrap (t - n.1) + 1) / 86400)), V.int IntKind.i64 (dDay (IntKind.i64.wrap (IntKind.i64.wrap (t - n.1) + 1) / 86400)), V.int IntKind.i64 (IntKind.i64.wrap (IntKind.i64.wrap (t - n.1) + 1) % 86400 / 3600), V.int IntKind.i64 (IntKind.i64.wrap (IntKind.i64.wrap (t - n.1) + 1) % 3600 / 60), V.int IntKind.i64 (IntKind.i64.wrap (IntKind.i64.wrap (t - n.1) + 1) % 60)], V.bool true], upd := [], new := [] }) (Tree.leaf { v := V.tup [V.agg [V.int IntKind.i64 0, V.int IntKind.i64 0, V.int IntKind.i64 0, V.int IntKind.i64 0, V.int IntKind.i64 0, V.int IntKind.i64 0], V.bool false], upd := [], new := [] })) Tree.fail) (Tree.ite (decide (IntKind.i64.wrap (t - n.1) ≤ 9223372036854775807)) (Tree.ite (ofB (IntKind.i64.wrap (t - n.1))) (Tree.leaf { v := V.tup [V.agg [V.int IntKind.i64 (dYear (IntKind.i64.wrap (t - n.1) / 86400)), V.int IntKind.i64 (dMonth (IntKind.i64.wrap (t - n.1) / 86400)), V.int IntKind.i64 (dDay (IntKind.i64.wrap (t - n.1) / 86400)), V.int IntKind.i64 (IntKind.i64.wrap (t - n.1) % 86400 / 3600), V.int IntKind.i64 (IntKind.i64.wrap (t - n.1) % 3600 / 60), V.int IntKind.i64 (IntKind.i64.wrap (t - n.1) % 60)], V.bool true], upd := [], new := [] }) (Tree.leaf { v := V.tup [V.agg [V.int IntKind.i64 0, V.int IntKind.i64 0, V.int IntKind.i64 0, V.int IntKind.i64 0, V.int IntKind.i64 0, V.int IntKind.i64 0], V.bool false], upd := [], new := [] })) Tree.fail)) (Tree.ite (decide (IntKind.i64.wrap (t - n.1) ≤ 9223372036854775807)) (Tree.ite (ofB (IntKind.i64.wrap (t - n.1))) (Tree.leaf { v := V.tup [V.agg [V.int IntKind.i64 (dYear (IntKind.i64.wrap (t - n.1) / 86400)), V.int IntKind.i64 (dMonth (IntKind.i64.wrap (t - n.1) / 86400)), V.int IntKind.i64 (dDay (IntKind.i64.wrap (t - n.1) / 86400)), V.int IntKind.i64 (IntKind.i64.wrap (t - n.1) % 86400 / 3600), V.int IntKind.i64 (IntKind.i64.wrap (t - n.1) % 3600 / 60), V.int IntKind.i64 (IntKind.i64.wrap (t - n.1) % 60)], V.bool true], upd := [], new := [] }) (Tree.leaf { v := V.tup [V.agg [V.int IntKind.i64 0, V.int IntKind.i64 0, V.int IntKind.i64 0, V.int IntKind.i64 0, V.int IntKind.i64 0, V.int IntKind.i64 0], V.bool false], upd := [], new := [] })) Tree.fail))) (Tree.ite n.3 (Tree.ite ((IntKind.i64.wrap (IntKind.i64.wrap (t - n.1) + 1)).tmod 86400 == 0) (Tree.ite (decide (IntKind.i64.wrap (IntKind.i64.wrap (t - n.1) + 1) ≤ 9223372036854775807)) (Tree.ite (ofB (IntKind.i64.wrap (IntKind.i64.wrap (t - n.1) + 1))) (Tree.leaf { v := V.tup [V.agg [V.int IntKind.i64 (dYear (IntKind.i64.wrap (IntKind.i64.wrap (t - n.1) + 1) / 86400)), V.int IntKind.i64 (dMonth (IntKind.i64.wrap (IntKind.i64.wrap (t - n.1) + 1) / 86400)), V.int IntKind.i64 (dDay (IntKind.i64.wrap (IntKind.i64.wrap (t - n.1) + 1) / 86400)), V.int IntKind.i64 (IntKind.i64.wrap (IntKind.i64.wrap (t - n.1) + 1) % 86400 / 3600), V.int IntKind.i64 (IntKind.i64.wrap (IntKind.i64.wrap (t - n.1) + 1) % 3600 / 60), V.int IntKind.i64 (IntKind.i64.wrap (IntKind.i64.wrap (t - n.1) + 1) % 60)], V.bool true], upd := [], new := [] }) (Tree.leaf { v := V.tup [V.agg [V.int IntKind.i64 0, V.int IntKind.i64 0, V.int IntKind.i64 0, V.int IntKind.i64 0, V.int IntKind.i64 0, V.int IntKind.i64 0], V.bool false], upd := [], new := [] })) Tree.fail) (Tree.ite (decide (IntKind.i64.wrap (t - n.1) ≤ 9223372036854775807)) (Tree.ite (ofB (IntKind.i64.wrap (t - n.1))) (Tree.leaf { v := V.tup [V.agg [V.int IntKind.i64 (dYear (IntKind.i64.wrap (t - n.1) / 86400)), V.int IntKind.i64 (dMonth (IntKind.i64.wrap (t - n.1) / 86400)), V.int IntKind.i64 (dDay (IntKind.i64.wrap (t - n.1) / 86400)), V.int IntKind.i64 (IntKind.i64.wrap (t - n.1) % 86400 / 3600), V.int IntKind.i64 (IntKind.i64.wrap (t - n.1) % 3600 / 60), V.int IntKind.i64 (IntKind.i64.wrap (t - n.1) % 60)], V.bool true], upd := [], new := [] }) (Tree.leaf { v := V.tup [V.agg [V.int IntKind.i64 0, V.int IntKind.i64 0, V.int IntKind.i64 0, V.int IntKind.i64 0, V.int IntKind.i64 0, V.int IntKind.i64 0], V.bool false], upd := [], new := [] })) Tree.fail)) (Tree.ite (decide (IntKind.i64.wrap (t - n.1) ≤ 9223372036854775807)) (Tree.ite (ofB (IntKind.i64.wrap (t - n.1))) (Tree.leaf { v := V.tup [V.agg [V.int IntKind.i64 (dYear (IntKind.i64.wrap (t - n.1) / 86400)), V.int IntKind.i64 (dMonth (IntKind.i64.wrap (t - n.1) / 86400)), V.int IntKind.i64 (dDay (IntKind.i64.wrap (t - n.1) / 86400)), V.int IntKind.i64 (IntKind.i64.wrap (t - n.1) % 86400 / 3600), V.int IntKind.i64 (IntKind.i64.wrap (t - n.1) % 3600 / 60), V.int IntKind.i64 (IntKind.i64.wrap (t - n.1) % 60)], V.bool true], upd := [], new := [] }) (Tree.leaf { v := V.tup [V.agg [V.int IntKind.i64 0, V.int IntKind.i64 0, V.int IntKind.i64 0, V.int IntKind.i64 0, V.int IntKind.i64 0, V.int IntKind.i64 0], V.bool false], upd := [], new := [] })) Tree.fail))) (Tree.ite n.3 (Tree.ite ((IntKind.i64.wrap (IntKind.i64.wrap (t - n.1) + 1)).tmod 86400 == 0) (Tree.ite (decide (IntKind.i64.wrap (IntKind.i64.wrap (t - n.1) + 1) ≤ 9223372036854775807)) (Tree.ite (ofB (IntKind.i64.wrap (IntKind.i64.wrap (t - n.1) + 1))) (Tree.leaf { v := V.tup [V.agg [V.int IntKind.i64 (dYear (IntKind.i64.wrap (IntKind.i64.wrap (t - n.1) + 1) / 86400)), V.int IntKind.i64 (dMonth (IntKind.i64.wrap (IntKind.i64.wrap (t - n.1) + 1) / 86400)), V.int IntKind.i64 (dDay (IntKind.i64.wrap (IntKind.i64.wrap (t - n.1) + 1) / 86400)), V.int IntKind.i64 (IntKind.i64.wrap (IntKind.i64.wrap (t - n.1) + 1) % 86400 / 3600), V.int IntKind.i64 (IntKind.i64.wrap (IntKind.i64.wrap (t - n.1) + 1) % 3600 / 60), V.int IntKind.i64 (IntKind.i64.wrap (IntKind.i64.wrap (t - n.1) + 1) % 60)], V.bool true], upd := [], new := [] }) (Tree.leaf { v := V.tup [V.agg [V.int IntKind.i64 0, V.int IntKind.i64 0, V.int IntKind.i64 0, V.int IntKind.i64 0, V.int IntKind.i64 0, V.int IntKind.i64 0], V.bool false], upd := [], new := [] })) Tree.fail) (Tree.ite (decide (IntKind.i64.wrap (t - n.1) ≤ 9223372036854775807)) (Tree.ite (ofB (IntKind.i64.wrap (t - n.1))) (Tree.leaf { v := V.tup [V.agg [V.int IntKind.i64 (dYear (IntKind.i64.wrap (t - n.1) / 86400)), V.int IntKind.i64 (dMonth (IntKind.i64.wrap (t - n.1) / 86400)), V.int IntKind.i64 (dDay (IntKind.i64.wrap (t - n.1) / 86400)), V.int IntKind.i64 (IntKind.i64.wrap (t - n.1) % 86400 / 3600), V.int IntKind.i64 (IntKind.i64.wrap (t - n.1) % 3600 / 60), V.int IntKind.i64 (IntKind.i64.wrap (t - n.1) % 60)], V.bool true], upd := [], new := [] }) (Tree.leaf { v := V.tup [V.agg [V.int IntKind.i64 0, V.int IntKind.i64 0, V.int IntKind.i64 0, V.int IntKind.i64 0, V.int IntKind.i64 0, V.int IntKind.i64 0], V.bool false], upd := [], new := [] })) Tree.fail)) (Tree.ite (decide (IntKind.i64.wrap (t - n.1) ≤ 9223372036854775807)) (Tree.ite (ofB (IntKind.i64.wrap (t - n.1))) (Tree.leaf { v := V.tup [V.agg [V.int IntKind.i64 (dYear (IntKind.i64.wrap (t - n.1) / 86400)), V.int IntKind.i64 (dMonth (IntKind.i64.wrap (t - n.1) / 86400)), V.int IntKind.i64 (dDay (IntKind.i64.wrap (t - n.1) / 86400)), V.int IntKind.i64 (IntKind.i64.wrap (t - n.1) % 86400 / 3600), V.int IntKind.i64 (IntKind.i64.wrap (t - n.1) % 3600 / 60), V.int IntKind.i64 (IntKind.i64.wrap (t - n.1) % 60)], V.bool true], upd := [], new := [] }) (Tree.leaf { v := V.tup [V.agg [V.int IntKind.i64 0, V.int IntKind.i64 0, V.int IntKind.i64 0, V.int IntKind.i64 0, V.int IntKind.i64 0, V.int IntKind.i64 0], V.bool false], upd := [], new := [] })) Tree.fail))))))))) from by kernel_rfl]
      simp only [denN_ite, denN_leaf, denN_fail]
      obtain ⟨o, a, b, va⟩ := n
      dsimp only
      by_cases hg : -32768 ≤ o ∧ o < 32768 ∧ 0 ≤ t ∧ t ≤ 1099511627776
      · obtain ⟨g1, g2, g3, g4⟩ := hg
        have w1 : IntKind.i64.wrap (t - o) = t - o := wrap64_id (by omega) (by omega)
        have w2 : IntKind.i64.wrap (t - o + 1) = t - o + 1 := wrap64_id (by omega) (by omega)
        have d1 : (decide (o < -32768)) = false := decide_eq_false (by omega)
        have d2 : (decide (o ≥ 32768)) = false := decide_eq_false (by omega)
        have d2' : (decide (o > 32767)) = false := decide_eq_false (by omega)
        have d3 : (decide (t < 0)) = false := decide_eq_false (by omega)
        have d4 : (decide (t > 1099511627776)) = false := decide_eq_false (by omega)
        have m1 : ((t - o).tmod 86400 == 0) = decide ((t - o) % 86400 = 0) := tmod_zb _
        have m2 : ((t - o + 1).tmod 86400 == 0) = decide ((t - o + 1) % 86400 = 0) := tmod_zb _
        have m3 : (IntKind.i64.wrap ((t - o).tdiv 86400 * 86400) == t - o) = decide ((t - o) % 86400 = 0) := tdiv_zb (by omega) (by omega)
        have m4 : (IntKind.i64.wrap ((t - o + 1).tdiv 86400 * 86400) == t - o + 1) = decide ((t - o + 1) % 86400 = 0) := tdiv_zb (by omega) (by omega)
        have w5 : IntKind.i64.wrap ((t - o).tdiv 86400) = (t - o).tdiv 86400 := tdiv_wr (by omega) (by omega)
        have w6 : IntKind.i64.wrap ((t - o + 1).tdiv 86400) = (t - o + 1).tdiv 86400 := tdiv_wr (by omega) (by omega)
        have k1 : decide (t - o ≤ 9223372036854775807) = true := decide_eq_true (by omega)
        have k2 : decide (t - o + 1 ≤ 9223372036854775807) = true := decide_eq_true (by omega)
        simp only [w1, w2, w5, w6, d1, d2, d2', d3, d4, m1, m2, m3, m4, k1, k2]
        simp only [byL, byB, byG, bySix, byU, decide_eq_true g1, decide_eq_true g2, decide_eq_true g3, decide_eq_true g4, Bool.and_true] at h
        by_cases hp : t - o > 0
        · have q : (t - o).tdiv 86400 = (t - o) / 86400 := Int.tdiv_eq_ediv_of_nonneg (by omega)
          have w3 : IntKind.i64.wrap ((t - o) / 86400 - 1) = (t - o) / 86400 - 1 := wrap64_id (by omega) (by omega)
          have k3 : decide ((t - o) / 86400 - 1 ≤ 9223372036854775807) = true := decide_eq_true (by omega)
          rw [decide_eq_true hp] at h ⊢
          simp only [q, w3, k3]
          generalize decide ((t - o) % 86400 = 0) = x1 at h ⊢
          generalize decide ((t - o + 1) % 86400 = 0) = x2 at h ⊢
          cases h1 : dateB ((t - o) / 86400 - 1) <;> cases h2 : ofB (t - o) <;> cases h3 : ofB (t - o + 1) <;> cases a <;> cases b <;> cases va <;> cases x1 <;> cases x2 <;> simp [h1, h2, h3] at h <;> cases h <;> rfl
        · rw [decide_eq_false hp] at h ⊢
          generalize decide ((t - o) % 86400 = 0) = x1 at h ⊢
          generalize decide ((t - o + 1) % 86400 = 0) = x2 at h ⊢
          cases h2 : ofB (t - o) <;> cases h3 : ofB (t - o + 1) <;> cases a <;> cases b <;> cases va <;> cases x1 <;> cases x2 <;> simp [h2, h3] at h <;> cases h <;> rfl
      · have e : byB ⟨o, a, b, va⟩ t = false := by
          cases hb : byB ⟨o, a, b, va⟩ t with
          | false => rfl
          | true =>
            simp only [byB, byG, Bool.and_eq_true, decide_eq_true_eq] at hb
            omega
        have e2 : byL ⟨o, a, b, va⟩ t = Lab.zero := by unfold byL; rw [e]; rfl
        rw [e, e2, if_neg (by decide)] at h; cases h
        cases va with
        | false => rfl
        | true =>
          rw [if_neg (by decide)]
          by_cases a1 : o < -32768
          · simp only [decide_eq_true a1]; cases a <;> cases b <;> rfl
          by_cases a2 : o ≥ 32768
          · simp only [decide_eq_false a1, decide_eq_true a2]; cases a <;> cases b <;> rfl
          by_cases a3 : t < 0
          · simp only [decide_eq_false a1, decide_eq_false a2, decide_eq_true a3]; cases a <;> cases b <;> rfl
          have a4 : t > 1099511627776 := by omega
          simp only [decide_eq_false a1, decide_eq_false a2, decide_eq_false a3, decide_eq_true a4]; cases a <;> cases b <;> rfl
    · simp [den_fail] at h
  · simp [den_fail] at h
theorem refBy_ok : SpecOK P 28 byS := by
  refine specOK_fast rbyGa_ok hm (Λ := loopsOf []) Tryd.func28 (by kernel_rfl) (LoopsOK.nil (by kernel_rfl)) ?_
  intro args bs r h
  unfold byS at h
  split at h
  · split at h
    · rename_i v t _ n hn
      rw [Nte.of_eq hn]
      rw [denI, denLf, denLf] at h
      rw [show (fFn P (specsOf rbyGa) (loopsOf []) Tryd.f28 [n.v, .int .i64 t] []).denN = Tree.denN (Tree.ite (!n.4) (Tree.leaf { v := V.tup [V.agg [V.int IntKind.i64 0, V.int IntKind.i64 0, V.int IntKind.i64 0, V.int IntKind.i64 0, V.int IntKind.i64 0, V.int IntKind.i64 0], V.fls], upd := [], new := [] }) (Tree.ite n.2 (Tree.ite n.3 (Tree.leaf { v := V.tup [V.agg [V.int IntKind.i64 0, V.int IntKind.i64 0, V.int IntKind.i64 0, V.int IntKind.i64 0, V.int IntKind.i64 0, V.int IntKind.i64 0], V.fls], upd := [], new := [] }) (Tree.ite (decide (n.1 < -32768)) (Tree.leaf { v := V.tup [V.agg [V.int IntKind.i64 0, V.int IntKind.i64 0, V.int IntKind.i64 0, V.int IntKind.i64 0, V.int IntKind.i64 0, V.int IntKind.i64 0], V.fls], upd := [], new := [] }) (Tree.ite (decide (n.1 > 32767)) (Tree.leaf { v := V.tup [V.agg [V.int IntKind.i64 0, V.int IntKind.i64 0, V.int IntKind.i64 0, V.int IntKind.i64 0, V.int IntKind.i64 0, V.int IntKind.i64 0], V.fls], upd := [], new := [] }) (Tree.ite (decide (t < 0)) (Tree.leaf { v := V.tup [V.agg [V.int IntKind.i64 0, V.int IntKind.i64 0, V.int IntKind.i64 0, V.int IntKind.i64 0, V.int IntKind.i64 0, V.int IntKind.i64 0], V.fls], upd := [], new := [] }) (Tree.ite (decide (t > 1099511627776)) (Tree.leaf { v := V.tup [V.agg [V.int IntKind.i64 0, V.int IntKind.i64 0, V.int IntKind.i64 0, V.int IntKind.i64 0, V.int IntKind.i64 0, V.int IntKind.i64 0], V.fls], upd := [], new := [] }) (Tree.ite n.2 (Tree.ite (decide (IntKind.i64.wrap (t - n.1) > 0)) (Tree.ite (IntKind.i64.wrap (IntKind.i64.wrap ((IntKind.i64.wrap (t - n.1)).tdiv 86400) * 86400) == IntKind.i64.wrap (t - n.1)) (Tree.ite (decide (IntKind.i64.wrap (IntKind.i64.wrap ((IntKind.i64.wrap (t - n.1)).tdiv 86400) - 1) ≤ 9223372036854775807)) (Tree.ite (dateB (IntKind.i64.wrap (IntKind.i64.wrap ((IntKind.i64.wrap (t - n.1)).tdiv 86400) - 1))) (Tree.leaf { v := V.tup [V.agg [V.int IntKind.i64 (dYear (IntKind.i64.wrap (IntKind.i64.wrap ((IntKind.i64.wrap (t - n.1)).tdiv 86400) - 1))), V.int IntKind.i64 (dMonth (IntKind.i64.wrap (IntKind.i64.wrap ((IntKind.i64.wrap (t - n.1)).tdiv 86400) - 1))), V.int IntKind.i64 (dDay (IntKind.i64.wrap (IntKind.i64.wrap ((IntKind.i64.wrap (t - n.1)).tdiv 86400) - 1))), V.int IntKind.i64 23, V.int IntKind.i64 59, V.int IntKind.i64 60], V.bool true], upd := [], new := [] }) (Tree.leaf { v := V.tup [V.agg [V.int IntKind.i64 0, V.int IntKind.i64 0, V.int IntKind.i64 0, V.int IntKind.i64 0, V.int IntKind.i64 0, V.int IntKind.i64 0], V.bool false], upd := [], new := [] })) Tree.fail) (Tree.ite n.3 (Tree.ite (IntKind.i64.wrap (IntKind.i64.wrap ((IntKind.i64.wrap (IntKind.i64.wrap (t - n.1) + 1)).tdiv 86400) * 86400) == IntKind.i64.wrap (IntKind.i64.wrap (t - n.1) + 1)) (Tree.ite (decide (IntKind.i64.wrap (IntKind.i64.wrap (t - n.1) + 1) ≤ 9223372036854775807)) (Tree.ite (ofB (IntKind.i64.wrap (IntKind.i64.wrap (t - n.1) + 1))) (Tree.leaf { v := V.tup [V.agg [V.int IntKind.i64 (dYear (IntKind.i64.wrap (IntKind.i64.wrap (t - n.1) + 1) / 86400)), V.int IntKind.i64 (dMonth (IntKind.i64.wrap (IntKind.i64.wrap (t - n.1) + 1) / 86400)), V.int IntKind.i64 (dDay (IntKind.i64.wrap (IntKind.i64.wrap (t - n.1) + 1) / 86400)), V.int IntKind.i64 (IntKind.i64.wrap (IntKind.i64.wrap (t - n.1) + 1) % 86400 / 3600), V.int IntKind.i64 (IntKind.i64.wrap (IntKind.i64.wrap (t - n.1) + 1) % 3600 / 60), V.int IntKind.i64 (IntKind.i64.wrap (IntKind.i64.wrap (t - n.1) + 1) % 60)], V.bool true], upd := [], new := [] }) (Tree.leaf { v := V.tup [V.agg [V.int IntKind.i64 0, V.int IntKind.i64 0, V.int IntKind.i64 0, V.int IntKind.i64 0, V.int IntKind.i64 0, V.int IntKind.i64 0], V.bool false], upd := [], new := [] })) Tree.fail) (Tree.ite (decide (IntKind.i64.wrap (t - n.1) ≤ 9223372036854775807)) (Tree.ite (ofB (IntKind.i64.wrap (t - n.1))) (Tree.leaf { v := V.tup [V.agg [V.int IntKind.i64 (dYear (IntKind.i64.wrap (t - n.1) / 86400)), V.int IntKind.i64 (dMonth (IntKind.i64.wrap (t - n.1) / 86400)), V.int IntKind.i64 (dDay (IntKind.i64.wrap (t - n.1) / 86400)), V.int IntKind.i64 (IntKind.i64.wrap (t - n.1) % 86400 / 3600), V.int IntKind.i64 (IntKind.i64.wrap (t - n.1) % 3600 / 60), V.int IntKind.i64 (IntKind.i64.wrap (t - n.1) % 60)], V.bool true], upd := [], new := [] }) (Tree.leaf { v := V.tup [V.agg [V.int IntKind.i64 0, V.int IntKind.i64 0, V.int IntKind.i64 0, V.int IntKind.i64 0, V.int IntKind.i64 0, V.int IntKind.i64 0], V.bool false], upd := [], new := [] })) Tree.fail)) (Tree.ite (decide (IntKind.i64.wrap (t - n.1) ≤ 9223372036854775807)) (Tree.ite (ofB (IntKind.i64.wrap (t - n.1))) (Tree.leaf { v := V.tup [V.agg [V.int IntKind.i64 (dYear (IntKind.i64.wrap (t - n.1) / 86400)), V.int IntKind.i64 (dMonth (IntKind.i64.wrap (t - n.1) / 86400)), V.int IntKind.i64 (dDay (IntKind.i64.wrap (t - n.1) / 86400)), V.int IntKind.i64 (IntKind.i64.wrap (t - n.1) % 86400 / 3600), V.int IntKind.i64 (IntKind.i64.wrap (t - n.1) % 3600 / 60), V.int IntKind.i64 (IntKind.i64.wrap (t - n.1) % 60)], V.bool true], upd := [], new := [] }) (Tree.leaf { v := V.tup [V.agg [V.int IntKind.i64 0, V.int IntKind.i64 0, V.int IntKind.i64 0, V.int IntKind.i64 0, V.int IntKind.i64 0, V.int IntKind.i64 0], V.bool false], upd := [], new := [] })) Tree.fail))) (Tree.ite n.3 (Tree.ite (IntKind.i64.wrap (IntKind.i64.wrap ((IntKind.i64.wrap (IntKind.i64.wrap (t - n.1) + 1)).tdiv 86400) * 86400) == IntKind.i64.wrap (IntKind.i64.wrap (t - n.1) + 1)) (Tree.ite (decide (IntKind.i64.wrap (IntKind.i64.wrap (t - n.1) + 1) ≤ 9223372036854775807)) (Tree.ite (ofB (IntKind.i64.wrap (IntKind.i64.wrap (t - n.1) + 1))) (Tree.leaf { v := V.tup [V.agg [V.int IntKind.i64 (dYear (IntKind.i64.wrap (IntKind.i64.wrap (t - n.1) + 1) / 86400)), V.int IntKind.i64 (dMonth (IntKind.i64.wrap (IntKind.i64.wrap (t - n.1) + 1) / 86400)), V.int IntKind.i64 (dDay (IntKind.i64.wrap (IntKind.i64.wrap (t - n.1) + 1) / 86400)), V.int IntKind.i64 (IntKind.i64.wrap (IntKind.i64.wrap (t - n.1) + 1) % 86400 / 3600), V.int IntKind.i64 (IntKind.i64.wrap (IntKind.i64.wrap (t - n.1) + 1) % 3600 / 60), V.int IntKind.i64 (IntKind.i64.wrap (IntKind.i64.wrap (t - n.1) + 1) % 60)], V.bool true], upd := [], new := [] }) (Tree.leaf { v := V.tup [V.agg [V.int IntKind.i64 0, V.int IntKind.i64 0, V.int IntKind.i64 0, V.int IntKind.i64 0, V.int IntKind.i64 0, V.int IntKind.i64 0], V.bool false], upd := [], new := [] })) Tree.fail) (Tree.ite (decide (IntKind.i64.wrap (t - n.1) ≤ 9223372036854775807)) (Tree.ite (ofB (IntKind.i64.wrap (t - n.1))) (Tree.leaf { v := V.tup [V.agg [V.int IntKind.i64 (dYear (IntKind.i64.wrap (t - n.1) / 86400)), V.int IntKind.i64 (dMonth (IntKind.i64.wrap (t - n.1) / 86400)), V.int IntKind.i64 (dDay (IntKind.i64.wrap (t - n.1) / 86400)), V.int IntKind.i64 (IntKind.i64.wrap (t - n.1) % 86400 / 3600), V.int IntKind.i64 (IntKind.i64.wrap (t - n.1) % 3600 / 60), V.int IntKind.i64 (IntKind.i64.wrap (t - n.1) % 60)], V.bool true], upd := [], new := [] }) (Tree.leaf { v := V.tup [V.agg [V.int IntKind.i64 0, V.int IntKind.i64 0, V.int IntKind.i64 0, V.int IntKind.i64 0, V.int IntKind.i64 0, V.int IntKind.i64 0], V.bool false], upd := [], new := [] })) Tree.fail)) (Tree.ite (decide (IntKind.i64.wrap (t - n.1) ≤ 9223372036854775807)) (Tree.ite (ofB (IntKind.i64.wrap (t - n.1))) (Tree.leaf { v := V.tup [V.agg [V.int IntKind.i64 (dYear (IntKind.i64.wrap (t - n.1) / 86400)), V.int IntKind.i64 (dMonth (IntKind.i64.wrap (t - n.1) / 86400)), V.int IntKind.i64 (dDay (IntKind.i64.wrap (t - n.1) / 86400)), V.int IntKind.i64 (IntKind.i64.wrap (t - n.1) % 86400 / 3600), V.int IntKind.i64 (IntKind.i64.wrap (t - n.1) % 3600 / 60), V.int IntKind.i64 (IntKind.i64.wrap (t - n.1) % 60)], V.bool true], upd := [], new := [] }) (Tree.leaf { v := V.tup [V.agg [V.int IntKind.i64 0, V.int IntKind.i64 0, V.int IntKind.i64 0, V.int IntKind.i64 0, V.int IntKind.i64 0, V.int IntKind.i64 0], V.bool false], upd := [], new := [] })) Tree.fail))) (Tree.ite n.3 (Tree.ite (IntKind.i64.wrap (IntKind.i64.wrap ((IntKind.i64.wrap (IntKind.i64.wrap (t - n.1) + 1)).tdiv 86400) * 86400) == IntKind.i64.wrap (IntKind.i64.wrap (t - n.1) + 1)) (Tree.ite (decide (IntKind.i64.wrap (IntKind.i64.wrap (t - n.1) + 1) ≤ 9223372036854775807)) (Tree.ite (ofB (IntKind.i64.wrap (IntKind.i64.wrap (t - n.1) + 1))) (Tree.leaf { v := V.tup [V.agg [V.int IntKind.i64 (dYear (IntKind.i64.wrap (IntKind.i64.wrap (t - n.1) + 1) / 86400)), V.int IntKind.i64 (dMonth (IntKind.i64.wrap (IntKind.i64.wrap (t - n.1) + 1) / 86400)), V.int IntKind.i64 (dDay (IntKind.i64.wrap (IntKind.i64.wrap (t - n.1) + 1) / 86400)), V.int IntKind.i64 (IntKind.i64.wrap (IntKind.i64.wrap (t - n.1) + 1) % 86400 / 3600), V.int IntKind.i64 (IntKind.i64.wrap (IntKind.i64.wrap (t - n.1) + 1) % 3600 / 60), V.int IntKind.i64 (IntKind.i64.wrap (IntKind.i64.wrap (t - n.1) + 1) % 60)], V.bool true], upd := [], new := [] }) (Tree.leaf { v := V.tup [V.agg [V.int IntKind.i64 0, V.int IntKind.i64 0, V.int IntKind.i64 0, V.int IntKind.i64 0, V.int IntKind.i64 0, V.int IntKind.i64 0], V.bool false], upd := [], new := [] })) Tree.fail) (Tree.ite (decide (IntKind.i64.wrap (t - n.1) ≤ 9223372036854775807)) (Tree.ite (ofB (IntKind.i64.wrap (t - n.1))) (Tree.leaf { v := V.tup [V.agg [V.int IntKind.i64 (dYear (IntKind.i64.wrap (t - n.1) / 86400)), V.int IntKind.i64 (dMonth (IntKind.i64.wrap (t - n.1) / 86400)), V.int IntKind.i64 (dDay (IntKind.i64.wrap (t - n.1) / 86400)), V.int IntKind.i64 (IntKind.i64.wrap (t - n.1) % 86400 / 3600), V.int IntKind.i64 (IntKind.i64.wrap (t - n.1) % 3600 / 60), V.int IntKind.i64 (IntKind.i64.wrap (t - n.1) % 60)], V.bool true], upd := [], new := [] }) (Tree.leaf { v := V.tup [V.agg [V.int IntKind.i64 0, V.int IntKind.i64 0, V.int IntKind.i64 0, V.int IntKind.i64 0, V.int IntKind.i64 0, V.int IntKind.i64 0], V.bool false], upd := [], new := [] })) Tree.fail)) (Tree.ite (decide (IntKind.i64.wrap (t - n.1) ≤ 9223372036854775807)) (Tree.ite (ofB (IntKind.i64.wrap (t - n.1))) (Tree.leaf { v := V.tup [V.agg [V.int IntKind.i64 (dYear (IntKind.i64.wrap (t - n.1) / 86400)), V.int IntKind.i64 (dMonth (IntKind.i64.wrap (t - n.1) / 86400)), V.int IntKind.i64 (dDay (IntKind.i64.wrap (t - n.1) / 86400)), V.int IntKind.i64 (IntKind.i64.wrap (t - n.1) % 86400 / 3600), V.int IntKind.i64 (IntKind.i64.wrap (t - n.1) % 3600 / 60), V.int IntKind.i64 (IntKind.i64.wrap (t - n.1) % 60)], V.bool true], upd := [], new := [] }) (Tree.leaf { v := V.tup [V.agg [V.int IntKind.i64 0, V.int IntKind.i64 0, V.int IntKind.i64 0, V.int IntKind.i64 0, V.int IntKind.i64 0, V.int IntKind.i64 0], V.bool false], upd := [], new := [] })) Tree.fail)))))))) (Tree.ite (decide (n.1 < -32768)) (Tree.leaf { v := V.tup [V.agg [V.int IntKind.i64 0, V.int IntKind.i64 0, V.int IntKind.i64 0, V.int IntKind.i64 0, V.int IntKind.i64 0, V.int IntKind.i64 0], V.fls], upd := [], new := [] }) (Tree.ite (decide (n.1 > 32767)) (Tree.leaf { v := V.tup [V.agg [V.int IntKind.i64 0, V.int IntKind.i64 0, V.int IntKind.i64 0, V.int IntKind.i64 0, V.int IntKind.i64 0, V.int IntKind.i64 0], V.fls], upd := [], new := [] }) (Tree.ite (decide (t < 0)) (Tree.leaf { v := V.tup [V.agg [V.int IntKind.i64 0, V.int IntKind.i64 0, V.int IntKind.i64 0, V.int IntKind.i64 0, V.int IntKind.i64 0, V.int IntKind.i64 0], V.fls], upd := [], new := [] }) (Tree.ite (decide (t > 1099511627776)) (Tree.leaf { v := V.tup [V.agg [V.int IntKind.i64 0, V.int IntKind.i64 0, V.int IntKind.i64 0, V.int IntKind.i64 0, V.int IntKind.i64 0, V.int IntKind.i64 0], V.fls], upd := [], new := [] }) (Tree.ite n.2 (Tree.ite (decide (IntKind.i64.wrap (t - n.1) > 0)) (Tree.ite (IntKind.i64.wrap (IntKind.i64.wrap ((IntKind.i64.wrap (t - n.1)).tdiv 86400) * 86400) == IntKind.i64.wrap (t - n.1)) (Tree.ite (decide (IntKind.i64.wrap (IntKind.i64.wrap ((IntKind.i64.wrap (t - n.1)).tdiv 86400) - 1) ≤ 9223372036854775807)) (Tree.ite (dateB (IntKind.i64.wrap (IntKind.i64.wrap ((IntKind.i64.wrap (t - n.1)).tdiv 86400) - 1))) (Tree.leaf { v := V.tup [V.agg [V.int IntKind.i64 (dYear (IntKind.i64.wrap (IntKind.i64.wrap ((IntKind.i64.wrap (t - n.1)).tdiv 86400) - 1))), V.int IntKind.i64 (dMonth (IntKind.i64.wrap (IntKind.i64.wrap ((IntKind.i64.wrap (t - n.1)).tdiv 86400) - 1))), V.int IntKind.i64 (dDay (IntKind.i64.wrap (IntKind.i64.wrap ((IntKind.i64.wrap (t - n.1)).tdiv 86400) - 1))), V.int IntKind.i64 23, V.int IntKind.i64 59, V.int IntKind.i64 60], V.bool true], upd := [], new := [] }) (Tree.leaf { v := V.tup [V.agg [V.int IntKind.i64 0, V.int IntKind.i64 0, V.int IntKind.i64 0, V.int IntKind.i64 0, V.int IntKind.i64 0, V.int IntKind.i64 0], V.bool false], upd := [], new := [] })) Tree.fail) (Tree.ite n.3 (Tree.ite (IntKind.i64.wrap (IntKind.i64.wrap ((IntKind.i64.wrap (IntKind.i64.wrap (t - n.1) + 1)).tdiv 86400) * 86400) == IntKind.i64.wrap (IntKind.i64.wrap (t - n.1) + 1)) (Tree.ite (decide (IntKind.i64.wrap (IntKind.i64.wrap (t - n.1) + 1) ≤ 9223372036854775807)) (Tree.ite (ofB (IntKind.i64.wrap (IntKind.i64.wrap (t - n.1) + 1))) (Tree.leaf { v := V.tup [V.agg [V.int IntKind.i64 (dYear (IntKind.i64.wrap (IntKind.i64.wrap (t - n.1) + 1) / 86400)), V.int IntKind.i64 (dMonth (IntKind.i64.wrap (IntKind.i64.wrap (t - n.1) + 1) / 86400)), V.int IntKind.i64 (dDay (IntKind.i64.wrap (IntKind.i64.wrap (t - n.1) + 1) / 86400)), V.int IntKind.i64 (IntKind.i64.wrap (IntKind.i64.wrap (t - n.1) + 1) % 86400 / 3600), V.int IntKind.i64 (IntKind.i64.wrap (IntKind.i64.wrap (t - n.1) + 1) % 3600 / 60), V.int IntKind.i64 (IntKind.i64.wrap (IntKind.i64.wrap (t - n.1) + 1) % 60)], V.bool true], upd := [], new := [] }) (Tree.leaf { v := V.tup [V.agg [V.int IntKind.i64 0, V.int IntKind.i64 0, V.int IntKind.i64 0, V.int IntKind.i64 0, V.int IntKind.i64 0, V.int IntKind.i64 0], V.bool false], upd := [], new := [] })) Tree.fail) (Tree.ite (decide (IntKind.i64.wrap (t - n.1) ≤ 9223372036854775807)) (Tree.ite (ofB (IntKind.i64.wrap (t - n.1))) (Tree.leaf { v := V.tup [V.agg [V.int IntKind.i64 (dYear (IntKind.i64.wrap (t - n.1) / 86400)), V.int IntKind.i64 (dMonth (IntKind.i64.wrap (t - n.1) / 86400)), V.int IntKind.i64 (dDay (IntKind.i64.wrap (t - n.1) / 86400)), V.int IntKind.i64 (IntKind.i64.wrap (t - n.1) % 86400 / 3600), V.int IntKind.i64 (IntKind.i64.wrap (t - n.1) % 3600 / 60), V.int IntKind.i64 (IntKind.i64.wrap (t - n.1) % 60)], V.bool true], upd := [], new := [] }) (Tree.leaf { v := V.tup [V.agg [V.int IntKind.i64 0, V.int IntKind.i64 0, V.int IntKind.i64 0, V.int IntKind.i64 0, V.int IntKind.i64 0, V.int IntKind.i64 0], V.bool false], upd := [], new := [] })) Tree.fail)) (Tree.ite (decide (IntKind.i64.wrap (t - n.1) ≤ 9223372036854775807)) (Tree.ite (ofB (IntKind.i64.wrap (t - n.1))) (Tree.leaf { v := V.tup [V.agg [V.int IntKind.i64 (dYear (IntKind.i64.wrap (t - n.1) / 86400)), V.int IntKind.i64 (dMonth (IntKind.i64.wrap (t - n.1) / 86400)), V.int IntKind.i64 (dDay (IntKind.i64.wrap (t - n.1) / 86400)), V.int IntKind.i64 (IntKind.i64.wrap (t - n.1) % 86400 / 3600), V.int IntKind.i64 (IntKind.i64.wrap (t - n.1) % 3600 / 60), V.int IntKind.i64 (IntKind.i64.wrap (t - n.1) % 60)], V.bool true], upd := [], new := [] }) (Tree.leaf { v := V.tup [V.agg [V.int IntKind.i64 0, V.int IntKind.i64 0, V.int IntKind.i64 0, V.int IntKind.i64 0, V.int IntKind.i64 0, V.int IntKind.i64 0], V.bool false], upd := [], new := [] })) Tree.fail))) (Tree.ite n.3 (Tree.ite (IntKind.i64.wrap (IntKind.i64.wrap ((IntKind.i64.wrap (IntKind.i64.wrap (t - n.1) + 1)).tdiv 86400) * 86400) == IntKind.i64.wrap (IntKind.i64.wrap (t - n.1) + 1)) (Tree.ite (decide (IntKind.i64.wrap (IntKind.i64.wrap (t - n.1) + 1) ≤ 9223372036854775807)) (Tree.ite (ofB (IntKind.i64.wrap (IntKind.i64.wrap (t - n.1) + 1))) (Tree.leaf { v := V.tup [V.agg [V.int IntKind.i64 (dYear (IntKind.i64.wrap (IntKind.i64.wrap (t - n.1) + 1) / 86400)), V.int IntKind.i64 (dMonth (IntKind.i64.wrap (IntKind.i64.wrap (t - n.1) + 1) / 86400)), V.int IntKind.i64 (dDay (IntKind.i64.wrap (IntKind.i64.wrap (t - n.1) + 1) / 86400)), V.int IntKind.i64 (IntKind.i64.wrap (IntKind.i64.wrap (t - n.1) + 1) % 86400 / 3600), V.int IntKind.i64 (IntKind.i64.wrap (IntKind.i64.wrap (t - n.1) + 1) % 3600 / 60), V.int IntKind.i64 (IntKind.i64.wrap (IntKind.i64.wrap (t - n.1) + 1) % 60)], V.bool true], upd := [], new := [] }) (Tree.leaf { v := V.tup [V.agg [V.int IntKind.i64 0, V.int IntKind.i64 0, V.int IntKind.i64 0, V.int IntKind.i64 0, V.int IntKind.i64 0, V.int IntKind.i64 0], V.bool false], upd := [], new := [] })) Tree.fail) (Tree.ite (decide (IntKind.i64.wrap (t - n.1) ≤ 9223372036854775807)) (Tree.ite (ofB (IntKind.i64.wrap (t - n.1))) (Tree.leaf { v := V.tup [V.agg [V.int IntKind.i64 (dYear (IntKind.i64.wrap (t - n.1) / 86400)), V.int IntKind.i64 (dMonth (IntKind.i64.wrap (t - n.1) / 86400)), V.int IntKind.i64 (dDay (IntKind.i64.wrap (t - n.1) / 86400)), V.int IntKind.i64 (IntKind.i64.wrap (t - n.1) % 86400 / 3600), V.int IntKind.i64 (IntKind.i64.wrap (t - n.1) % 3600 / 60), V.int IntKind.i64 (IntKind.i64.wrap (t - n.1) % 60)], V.bool true], upd := [], new := [] }) (Tree.leaf { v := V.tup [V.agg [V.int IntKind.i64 0, V.int IntKind.i64 0, V.int IntKind.i64 0, V.int IntKind.i64 0, V.int IntKind.i64 0, V.int IntKind.i64 0], V.bool false], upd := [], new := [] })) Tree.fail)) (Tree.ite (decide (IntKind.i64.wrap (t - n.1) ≤ 9223372036854775807)) (Tree.ite (ofB (IntKind.i64.wrap (t - n.1))) (Tree.leaf { v := V.tup [V.agg [V.int IntKind.i64 (dYear (IntKind.i64.wrap (t - n.1) / 86400)), V.int IntKind.i64 (dMonth (IntKind.i64.wrap (t - n.1) / 86400)), V.int IntKind.i64 (dDay (IntKind.i64.wrap (t - n.1) / 86400)), V.int IntKind.i64 (IntKind.i64.wrap (t - n.1) % 86400 / 3600), V.int IntKind.i64 (IntKind.i64.wrap (t - n.1) % 3600 / 60), V.int IntKind.i64 (IntKind.i64.wrap (t - n.1) % 60)], V.bool true], upd := [], new := [] }) (Tree.leaf { v := V.tup [V.agg [V.int IntKind.i64 0, V.int IntKind.i64 0, V.int IntKind.i64 0, V.int IntKind.i64 0, V.int IntKind.i64 0, V.int IntKind.i64 0], V.bool false], upd := [], new := [] })) Tree.fail))) (Tree.ite n.3 (Tree.ite (IntKind.i64.wrap (IntKind.i64.wrap ((IntKind.i64.wrap (IntKind.i64.wrap (t - n.1) + 1)).tdiv 86400) * 86400) == IntKind.i64.wrap (IntKind.i64.wrap (t - n.1) + 1)) (Tree.ite (decide (IntKind.i64.wrap (IntKind.i64.wrap (t - n.1) + 1) ≤ 9223372036854775807)) (Tree.ite (ofB (IntKind.i64.wrap (IntKind.i64.wrap (t - n.1) + 1))) (Tree.leaf { v := V.tup [V.agg [V.int IntKind.i64 (dYear (IntKind.i64.wrap (IntKind.i64.wrap (t - n.1) + 1) / 86400)), V.int IntKind.i64 (dMonth (IntKind.i64.wrap (IntKind.i64.wrap (t - n.1) + 1) / 86400)), V.int IntKind.i64 (dDay (IntKind.i64.wrap (IntKind.i64.wrap (t - n.1) + 1) / 86400)), V.int IntKind.i64 (IntKind.i64.wrap (IntKind.i64.wrap (t - n.1) + 1) % 86400 / 3600), V.int IntKind.i64 (IntKind.i64.wrap (IntKind.i64.wrap (t - n.1) + 1) % 3600 / 60), V.int IntKind.i64 (IntKind.i64.wrap (IntKind.i64.wrap (t - n.1) + 1) % 60)], V.bool true], upd := [], new := [] }) (Tree.leaf { v := V.tup [V.agg [V.int IntKind.i64 0, V.int IntKind.i64 0, V.int IntKind.i64 0, V.int IntKind.i64 0, V.int IntKind.i64 0, V.int IntKind.i64 0], V.bool false], upd := [], new := [] })) Tree.fail) (Tree.ite (decide (IntKind.i64.wrap (t - n.1) ≤ 9223372036854775807)) (Tree.ite (ofB (IntKind.i64.wrap (t - n.1))) (Tree.leaf { v := V.tup [V.agg [V.int IntKind.i64 (dYear (IntKind.i64.wrap (t - n.1) / 86400)), V.int IntKind.i64 (dMonth (IntKind.i64.wrap (t - n.1) / 86400)), V.int IntKind.i64 (dDay (IntKind.i64.wrap (t - n.1) / 86400)), V.int IntKind.i64 (IntKind.i64.wrap (t - n.1) % 86400 / 3600), V.int IntKind.i64 (IntKind.i64.wrap (t - n.1) % 3600 / 60), V.int IntKind.i64 (IntKind.i64.wrap (t - n.1) % 60)], V.bool true], upd := [], new := [] }) (Tree.leaf { v := V.tup [V.agg [V.int IntKind.i64 0, V.int IntKind.i64 0, V.int IntKind.i64 0, V.int IntKind.i64 0, V.int IntKind.i64 0, V.int IntKind.i64 0], V.bool false], upd := [], new := [] })) Tree.fail)) (Tree.ite (decide (IntKind.i64.wrap (t - n.1) ≤ 9223372036854775807)) (Tree.ite (ofB (IntKind.i64.wrap (t - n.1))) (Tree.leaf { v := V.tup [V.agg [V.int IntKind.i64 (dYear (IntKind.i64.wrap (t - n.1) / 86400)), V.int IntKind.i64 (dMonth (IntKind.i64.wrap (t - n.1) / 86400)), V.int IntKind.i64 (dDay (IntKind.i64.wrap (t - n.1) / 86400)), V.int IntKind.i64 (IntKind.i64.wrap (t - n.1) % 86400 / 3600), V.int IntKind.i64 (IntKind.i64.wrap (t - n.1) % 3600 / 60), V.int IntKind.i64 (IntKind.i64.wrap (t - n.1) % 60)], V.bool true], upd := [], new := [] }) (Tree.leaf { v := V.tup [V.agg [V.int IntKind.i64 0, V.int IntKind.i64 0, V.int IntKind.i64 0, V.int IntKind.i64 0, V.int IntKind.i64 0, V.int IntKind.i64 0], V.bool false], upd := [], new := [] })) Tree.fail))))))))) from by kernel_rfl]
      simp only [denN_ite, denN_leaf, denN_fail]
      obtain ⟨o, a, b, va⟩ := n
      dsimp only
      by_cases hg : -32768 ≤ o ∧ o < 32768 ∧ 0 ≤ t ∧ t ≤ 1099511627776
      · obtain ⟨g1, g2, g3, g4⟩ := hg
        have w1 : IntKind.i64.wrap (t - o) = t - o := wrap64_id (by omega) (by omega)
        have w2 : IntKind.i64.wrap (t - o + 1) = t - o + 1 := wrap64_id (by omega) (by omega)
        have d1 : (decide (o < -32768)) = false := decide_eq_false (by omega)
        have d2 : (decide (o ≥ 32768)) = false := decide_eq_false (by omega)
        have d2' : (decide (o > 32767)) = false := decide_eq_false (by omega)
        have d3 : (decide (t < 0)) = false := decide_eq_false (by omega)
        have d4 : (decide (t > 1099511627776)) = false := decide_eq_false (by omega)
        have m1 : ((t - o).tmod 86400 == 0) = decide ((t - o) % 86400 = 0) := tmod_zb _
        have m2 : ((t - o + 1).tmod 86400 == 0) = decide ((t - o + 1) % 86400 = 0) := tmod_zb _
        have m3 : (IntKind.i64.wrap ((t - o).tdiv 86400 * 86400) == t - o) = decide ((t - o) % 86400 = 0) := tdiv_zb (by omega) (by omega)
        have m4 : (IntKind.i64.wrap ((t - o + 1).tdiv 86400 * 86400) == t - o + 1) = decide ((t - o + 1) % 86400 = 0) := tdiv_zb (by omega) (by omega)
        have w5 : IntKind.i64.wrap ((t - o).tdiv 86400) = (t - o).tdiv 86400 := tdiv_wr (by omega) (by omega)
        have w6 : IntKind.i64.wrap ((t - o + 1).tdiv 86400) = (t - o + 1).tdiv 86400 := tdiv_wr (by omega) (by omega)
        have k1 : decide (t - o ≤ 9223372036854775807) = true := decide_eq_true (by omega)
        have k2 : decide (t - o + 1 ≤ 9223372036854775807) = true := decide_eq_true (by omega)
        simp only [w1, w2, w5, w6, d1, d2, d2', d3, d4, m1, m2, m3, m4, k1, k2]
        simp only [byL, byB, byG, bySix, byU, decide_eq_true g1, decide_eq_true g2, decide_eq_true g3, decide_eq_true g4, Bool.and_true] at h
        by_cases hp : t - o > 0
        · have q : (t - o).tdiv 86400 = (t - o) / 86400 := Int.tdiv_eq_ediv_of_nonneg (by omega)
          have w3 : IntKind.i64.wrap ((t - o) / 86400 - 1) = (t - o) / 86400 - 1 := wrap64_id (by omega) (by omega)
          have k3 : decide ((t - o) / 86400 - 1 ≤ 9223372036854775807) = true := decide_eq_true (by omega)
          rw [decide_eq_true hp] at h ⊢
          simp only [q, w3, k3]
          generalize decide ((t - o) % 86400 = 0) = x1 at h ⊢
          generalize decide ((t - o + 1) % 86400 = 0) = x2 at h ⊢
          cases h1 : dateB ((t - o) / 86400 - 1) <;> cases h2 : ofB (t - o) <;> cases h3 : ofB (t - o + 1) <;> cases a <;> cases b <;> cases va <;> cases x1 <;> cases x2 <;> simp [h1, h2, h3] at h <;> cases h <;> rfl
        · rw [decide_eq_false hp] at h ⊢
          generalize decide ((t - o) % 86400 = 0) = x1 at h ⊢
          generalize decide ((t - o + 1) % 86400 = 0) = x2 at h ⊢
          cases h2 : ofB (t - o) <;> cases h3 : ofB (t - o + 1) <;> cases a <;> cases b <;> cases va <;> cases x1 <;> cases x2 <;> simp [h2, h3] at h <;> cases h <;> rfl
      · have e : byB ⟨o, a, b, va⟩ t = false := by
          cases hb : byB ⟨o, a, b, va⟩ t with
          | false => rfl
          | true =>
            simp only [byB, byG, Bool.and_eq_true, decide_eq_true_eq] at hb
            omega
        have e2 : byL ⟨o, a, b, va⟩ t = Lab.zero := by unfold byL; rw [e]; rfl
        rw [e, e2, if_neg (by decide)] at h; cases h
        cases va with
        | false => rfl
        | true =>
          rw [if_neg (by decide)]
          by_cases a1 : o < -32768
          · simp only [decide_eq_true a1]; cases a <;> cases b <;> rfl
          by_cases a2 : o > 32767
          · simp only [decide_eq_false a1, decide_eq_true a2]; cases a <;> cases b <;> rfl
          by_cases a3 : t < 0
          · simp only [decide_eq_false a1, decide_eq_false a2, decide_eq_true a3]; cases a <;> cases b <;> rfl
          have a4 : t > 1099511627776 := by omega
          simp only [decide_eq_false a1, decide_eq_false a2, decide_eq_false a3, decide_eq_true a4]; cases a <;> cases b <;> rfl
    · simp [den_fail] at h
  · simp [den_fail] at h
end Go.Proofs.YtbfiaogmfjadeaaDoor

set_option maxRecDepth 100000
set_option linter.unusedSimpArgs false
set_option linter.unusedVariables false
namespace Go.Proofs.YtbfiaogmfjadeaaDoor
open Go.Rx

def smB (n : Int) : Bool := decide (-4611686018427387904 ≤ n) && decide (n ≤ 4611686018427387904)
theorem smB_iff {n : Int} : smB n = true ↔ -4611686018427387904 ≤ n ∧ n ≤ 4611686018427387904 := by simp [smB]
def smF (vals : List V) (bs : List Blk) : Tree LRes := match vals, bs with
  | [.sl 0 0 0 1 l cap, .int .i64 n, .int .i64 i], [.ints .i64 xs] => .need (decide (l = xs.length) && decide (n = (l : Int)) && decide (0 ≤ i) && decide (i ≤ n) && decide (l ≤ 1000))
      (.ite ((xs.drop i.toNat).all smB) (.leaf ⟨.exit 0, [.any], [none], []⟩) (.leaf ⟨.ret, [.fls], [none], []⟩))
  | _, _ => .fail
def smL : LSpec := ⟨18, [5, 6, 7], [2], smF⟩
theorem sm_round (xs : List Int) (l : Nat) (cap : Option Nat) (n i : Int) : (evRound P (specsOf []) (loopsOf []) 18 [5, 6, 7] [2] (loopAt Tryd.f51 0) [.sl 0 0 0 1 l cap, .int .i64 n, .int .i64 i] [.ints .i64 xs]).den = Tree.den (Tree.ite (decide (i < n)) (Tree.ite (decide (0 ≤ i) && decide (i < (↑l : Int))) (Tree.ite (decide (0 + i.toNat + 1 ≤ xs.length)) (Tree.ite (decide (xs.getD (0 + i.toNat + 0) 0 < -4611686018427387904)) (Tree.leaf { e := Ex.ret, vs := [V.fls], upd := [none], new := [] }) (Tree.ite (decide (xs.getD (0 + i.toNat + 0) 0 > 4611686018427387904)) (Tree.leaf { e := Ex.ret, vs := [V.fls], upd := [none], new := [] }) (Tree.leaf { e := Ex.nrm, vs := [V.sl 0 0 0 1 l cap, V.int IntKind.i64 n, V.int IntKind.i64 (IntKind.i64.wrap (i + 1))], upd := [none], new := [] }))) Tree.fail) Tree.fail) (Tree.leaf { e := Ex.exit 0, vs := [V.any], upd := [none], new := [] })) := by
  kernel_rfl
def smR (b : Bool) : LRes := match b with | true => ⟨.exit 0, [.any], [none], []⟩ | false => ⟨.ret, [.fls], [none], []⟩
theorem sm_rounds (xs : List Int) (cap : Option Nat) (hl : xs.length ≤ 1000) : ∀ (m j : Nat), j + m = xs.length →
    (loopN P (specsOf []) (loopsOf []) 18 [5, 6, 7] [2] (loopAt Tryd.f51 0) (m + 1) [.sl 0 0 0 1 xs.length cap, .int .i64 (xs.length : Int), .int .i64 (j : Int)] [.ints .i64 xs]).den =
      some (smR ((xs.drop j).all smB)) := by
  intro m
  induction m with
  | zero =>
    intro j hj
    have e : xs.drop j = [] := List.drop_eq_nil_of_le (by omega)
    rw [e]
    refine loopN_end (r1 := ⟨.exit 0, [.any], [none], []⟩) ?_ (by simp)
    rw [sm_round, show decide ((j : Int) < (xs.length : Int)) = false by simp; omega]
    rfl
  | succ m ih =>
    intro j hj
    have hd : xs.drop j = xs.getD j 0 :: xs.drop (j + 1) := drop_getD (by omega)
    have hr := sm_round xs xs.length cap (xs.length : Int) (j : Int)
    simp only [Nat.zero_add, Nat.add_zero, Int.toNat_natCast] at hr
    rw [show decide ((j : Int) < (xs.length : Int)) = true by simp; omega, show decide (0 ≤ (j : Int)) = true by simp, show decide (j + 1 ≤ xs.length) = true by simp; omega, wrap64_id (n := (j : Int) + 1) (by omega) (by omega)] at hr
    rw [hd, List.all_cons]
    by_cases h1 : xs.getD j 0 < -4611686018427387904
    · have e : smB (xs.getD j 0) = false := by simp only [smB]; rw [decide_eq_false (by omega)]; rfl
      rw [e]
      refine loopN_end (r1 := ⟨.ret, [.fls], [none], []⟩) ?_ (by simp)
      rw [hr, decide_eq_true h1]; rfl
    by_cases h2 : xs.getD j 0 > 4611686018427387904
    · have e : smB (xs.getD j 0) = false := by simp only [smB]; rw [decide_eq_false (p := xs.getD j 0 ≤ 4611686018427387904) (by omega), Bool.and_false]
      rw [e]
      refine loopN_end (r1 := ⟨.ret, [.fls], [none], []⟩) ?_ (by simp)
      rw [hr, decide_eq_false h1, decide_eq_true h2]; rfl
    have e : smB (xs.getD j 0) = true := by rw [smB_iff]; omega
    rw [e, Bool.true_and]
    rw [decide_eq_false h1, decide_eq_false h2] at hr
    simp only [Tree.den, Bool.and_self] at hr
    have ih' := ih (j + 1) (by omega)
    refine loopN_step hr rfl (vals' := [.sl 0 0 0 1 xs.length cap, .int .i64 (xs.length : Int), .int .i64 ((j + 1 : Nat) : Int)]) (bs' := [.ints .i64 xs]) (by kernel_rfl) (by kernel_rfl) (by kernel_rfl) ih' ?_
    cases (xs.drop (j + 1)).all smB <;> kernel_rfl
theorem sm_loop : LoopOK P (loopAt Tryd.f51 0) smL := by
  refine loop_ok (GammaOK.nil P) Go.Proofs.YtbfiaogmfjadeaaDoor.hm (Λ := loopsOf []) (LoopsOK.nil (by kernel_rfl)) _ ?_
  intro vals bs r h
  simp only [smL, smF] at h
  split at h
  · rename_i l cap n i xs
    rw [den_need, denI, denLf, denLf] at h
    simp only [Bool.and_eq_true, decide_eq_true_eq] at h
    obtain ⟨⟨⟨⟨⟨rfl, rfl⟩, h3⟩, h4⟩, h5⟩, h⟩ := h
    obtain ⟨j, rfl⟩ := Int.eq_ofNat_of_zero_le h3
    refine ⟨(xs.length - j) + 1, (sm_rounds xs cap h5 (xs.length - j) j (by omega)).trans ?_⟩
    rw [← h, Int.toNat_natCast]
    cases (xs.drop j).all smB <;> rfl
  · simp [den_fail] at h
def smallS : Rx.Spec := fun a b => match a, b with
  | [.sl 0 0 0 1 l cap], [.ints .i64 xs] => .need (decide (l = xs.length) && decide (l ≤ 1000)) (.leaf ⟨.bool (xs.all smB), [none], []⟩)
  | _, _ => .fail
theorem small_ok : SpecOK P 51 smallS := by
  refine specOK_fast (GammaOK.nil P) hm (Λ := loopsOf [(2, smL)]) Tryd.func51 (by kernel_rfl) (LoopsOK.one (by kernel_rfl) sm_loop) ?_
  intro args bs r h
  unfold smallS at h
  split at h
  · rename_i l cap xs
    rw [den_need, denLf] at h
    simp only [Bool.and_eq_true, decide_eq_true_eq] at h
    obtain ⟨⟨rfl, h2⟩, h⟩ := h
    cases h
    rw [show (fFn P (specsOf []) (loopsOf [(2, smL)]) Tryd.f51 [.sl 0 0 0 1 xs.length cap] [.ints .i64 xs]).denN = Tree.denN (Tree.ite (decide (xs.length = xs.length) && decide ((↑xs.length : Int) = (↑xs.length : Int)) && true && true && decide (xs.length ≤ 1000)) (Tree.ite ((List.drop 0 xs).all smB) (Tree.leaf { v := V.tru, upd := [none], new := [] }) (Tree.leaf { v := V.fls, upd := [none], new := [] })) Tree.fail) from by kernel_rfl]
    simp only [denN_ite, denN_leaf, denN_fail]
    rw [if_pos (by simp; omega), List.drop_zero]
    cases xs.all smB <;> rfl
  · simp [den_fail] at h
abbrev smG : List (Nat × Rx.Spec) := [(51, smallS)]
theorem smG_ok : GammaOK P smG := .cons small_ok (.nil P)
def absS : Rx.Spec := fun a b => match a, b with
  | [.int .i64 n], [] => .leaf ⟨.int .i64 (if smB n = true then (n.natAbs : Int) else 0), [], []⟩
  | _, _ => .fail
theorem abs_ok : SpecOK P 71 absS := by
  refine specOK_fast smG_ok hm (Λ := loopsOf []) Tryd.func71 (by kernel_rfl) (LoopsOK.nil (by kernel_rfl)) ?_
  intro args bs r h
  unfold absS at h
  split at h
  · rename_i n
    rw [denLf] at h; cases h
    rw [show (fFn P (specsOf smG) (loopsOf []) Tryd.f71 [.int .i64 n] []).denN = Tree.denN (Tree.ite (![n].all smB) (Tree.leaf { v := V.int IntKind.i64 0, upd := [], new := [] }) (Tree.ite (decide (n < 0)) (Tree.leaf { v := V.int IntKind.i64 (IntKind.i64.wrap (0 - n)), upd := [], new := [] }) (Tree.leaf { v := V.int IntKind.i64 n, upd := [], new := [] }))) from by kernel_rfl]
    simp only [denN_ite, denN_leaf, denN_fail]
    simp only [List.all_cons, List.all_nil, Bool.and_true]
    cases hn : smB n with
    | false => rfl
    | true =>
      rw [smB_iff] at hn
      by_cases h0 : n < 0
      · rw [if_neg (by decide), if_pos (by simpa using h0), wrap64_id (by omega) (by omega), if_pos rfl, show (n.natAbs : Int) = 0 - n by omega]
      · rw [if_neg (by decide), if_neg (by simpa using h0), if_pos rfl, show (n.natAbs : Int) = n by omega]
  · simp [den_fail] at h
def toldS : Rx.Spec := fun a b => match a, b with
  | [.int .i64 n, .bool q], [] => .ite (q && smB n) (.leaf ⟨.tup [.int .i64 n, .bool true], [], []⟩) (.leaf ⟨.tup [.int .i64 0, .bool false], [], []⟩)
  | _, _ => .fail
theorem told_ok : SpecOK P 62 toldS := by
  refine specOK_fast smG_ok hm (Λ := loopsOf []) Tryd.func62 (by kernel_rfl) (LoopsOK.nil (by kernel_rfl)) ?_
  intro args bs r h
  unfold toldS at h
  split at h
  · rename_i n q
    rw [denI, denLf, denLf] at h
    rw [show (fFn P (specsOf smG) (loopsOf []) Tryd.f62 [.int .i64 n, .bool q] []).denN = Tree.denN (Tree.ite (!q) (Tree.leaf { v := V.tup [V.int IntKind.i64 0, V.fls], upd := [], new := [] }) (Tree.ite (![n].all smB) (Tree.leaf { v := V.tup [V.int IntKind.i64 0, V.fls], upd := [], new := [] }) (Tree.leaf { v := V.tup [V.int IntKind.i64 n, V.tru], upd := [], new := [] }))) from by kernel_rfl]
    simp only [denN_ite, denN_leaf, denN_fail]
    simp only [List.all_cons, List.all_nil, Bool.and_true]
    cases q <;> cases hn : smB n <;> rw [hn] at h <;> cases h <;> rfl
  · simp [den_fail] at h
theorem prod_nf (a b : Int) : (fFn P (specsOf []) (loopsOf []) Tryd.f70 [.int .u64 a, .int .u64 b] []).den = Tree.den (Tree.leaf { v := V.agg [V.int IntKind.u64 (IntKind.u64.wrap (IntKind.u64.wrap (IntKind.u64.wrap (IntKind.u64.wrap (a.fdiv 4294967296 * b.fdiv 4294967296) + (IntKind.u64.wrap (a.fdiv 4294967296 * bAnd IntKind.u64 b 4294967295)).fdiv 4294967296) + (IntKind.u64.wrap (bAnd IntKind.u64 a 4294967295 * b.fdiv 4294967296)).fdiv 4294967296) + (IntKind.u64.wrap (IntKind.u64.wrap ((IntKind.u64.wrap (bAnd IntKind.u64 a 4294967295 * bAnd IntKind.u64 b 4294967295)).fdiv 4294967296 + bAnd IntKind.u64 (IntKind.u64.wrap (a.fdiv 4294967296 * bAnd IntKind.u64 b 4294967295)) 4294967295) + bAnd IntKind.u64 (IntKind.u64.wrap (bAnd IntKind.u64 a 4294967295 * b.fdiv 4294967296)) 4294967295)).fdiv 4294967296)), V.int IntKind.u64 (bOr IntKind.u64 (IntKind.u64.wrap (IntKind.u64.wrap (IntKind.u64.wrap ((IntKind.u64.wrap (bAnd IntKind.u64 a 4294967295 * bAnd IntKind.u64 b 4294967295)).fdiv 4294967296 + bAnd IntKind.u64 (IntKind.u64.wrap (a.fdiv 4294967296 * bAnd IntKind.u64 b 4294967295)) 4294967295) + bAnd IntKind.u64 (IntKind.u64.wrap (bAnd IntKind.u64 a 4294967295 * b.fdiv 4294967296)) 4294967295) * 4294967296)) (bAnd IntKind.u64 (IntKind.u64.wrap (bAnd IntKind.u64 a 4294967295 * bAnd IntKind.u64 b 4294967295)) 4294967295))], upd := [], new := [] }) := by kernel_rfl
theorem dv_round (p0 p1 c q left k : Int) : (evRound P (specsOf []) (loopsOf []) 41 [1, 2, 4, 5, 7] [4, 5] (loopAt Tryd.f69 0) [.int .u64 c, .ptr 0 0 0 0, .int .u64 q, .int .u64 left, .int .i64 k] [.cells [.int .u64 p0, .int .u64 p1]]).den = Tree.den (Tree.ite (decide (0 ≤ k)) (Tree.ite (decide (bOr IntKind.u64 (IntKind.u64.wrap (left * 2)) (bAnd IntKind.u64 (([p0, p1].getD 1 0).fdiv (2 ^ min k.toNat 64)) 1) ≥ c)) (Tree.ite (k == 0) (Tree.leaf { e := Ex.exit 0, vs := [V.int IntKind.u64 (bOr IntKind.u64 (IntKind.u64.wrap (q * 2)) 1), V.int IntKind.u64 (IntKind.u64.wrap (bOr IntKind.u64 (IntKind.u64.wrap (left * 2)) (bAnd IntKind.u64 (([p0, p1].getD 1 0).fdiv (2 ^ min k.toNat 64)) 1) - c))], upd := [none], new := [] }) (Tree.leaf { e := Ex.nrm, vs := [V.int IntKind.u64 c, V.ptr 0 0 0 0, V.int IntKind.u64 (bOr IntKind.u64 (IntKind.u64.wrap (q * 2)) 1), V.int IntKind.u64 (IntKind.u64.wrap (bOr IntKind.u64 (IntKind.u64.wrap (left * 2)) (bAnd IntKind.u64 (([p0, p1].getD 1 0).fdiv (2 ^ min k.toNat 64)) 1) - c)), V.int IntKind.i64 (IntKind.i64.wrap (k - 1))], upd := [none], new := [] })) (Tree.ite (k == 0) (Tree.leaf { e := Ex.exit 0, vs := [V.int IntKind.u64 (IntKind.u64.wrap (q * 2)), V.int IntKind.u64 (bOr IntKind.u64 (IntKind.u64.wrap (left * 2)) (bAnd IntKind.u64 (([p0, p1].getD 1 0).fdiv (2 ^ min k.toNat 64)) 1))], upd := [none], new := [] }) (Tree.leaf { e := Ex.nrm, vs := [V.int IntKind.u64 c, V.ptr 0 0 0 0, V.int IntKind.u64 (IntKind.u64.wrap (q * 2)), V.int IntKind.u64 (bOr IntKind.u64 (IntKind.u64.wrap (left * 2)) (bAnd IntKind.u64 (([p0, p1].getD 1 0).fdiv (2 ^ min k.toNat 64)) 1)), V.int IntKind.i64 (IntKind.i64.wrap (k - 1))], upd := [none], new := [] }))) Tree.fail) := by
  kernel_rfl

theorem wrap_u64 (n : Int) : IntKind.u64.wrap n = n % 18446744073709551616 := by simp [IntKind.wrap, IntKind.bits, IntKind.signed]
theorem u64_id {n : Int} (h0 : 0 ≤ n) (h1 : n < 18446744073709551616) : IntKind.u64.wrap n = n := by rw [wrap_u64]; omega
theorem u64_mask32 {x : Int} (h0 : 0 ≤ x) (h1 : x < 18446744073709551616) : bAnd .u64 x 4294967295 = x % 4294967296 :=
  bits_mask .u64 64 (by decide) (fun n a b => u64_id a (by simpa using b)) 32 (by decide) x h0 (by simpa using h1)
theorem u64_mask1 {x : Int} (h0 : 0 ≤ x) (h1 : x < 18446744073709551616) : bAnd .u64 x 1 = x % 2 :=
  bits_mask .u64 64 (by decide) (fun n a b => u64_id a (by simpa using b)) 1 (by decide) x h0 (by simpa using h1)
theorem u64_or1 {x y : Int} (h0 : 0 ≤ x) (h1 : x < 18446744073709551616) (h2 : x % 2 = 0) (h3 : 0 ≤ y) (h4 : y < 2) : bOr .u64 x y = x + y :=
  bits_join .u64 64 (by decide) (fun n a b => u64_id a (by simpa using b)) 1 x y h0 (by simpa using h2) (by simpa using h1) h3 (by simpa using h4) (by have : (2 : Int) ^ 64 = 18446744073709551616 := rfl; omega)
theorem u64_or32 {x y : Int} (h0 : 0 ≤ x) (h1 : x < 18446744073709551616) (h2 : x % 4294967296 = 0) (h3 : 0 ≤ y) (h4 : y < 4294967296) : bOr .u64 x y = x + y :=
  bits_join .u64 64 (by decide) (fun n a b => u64_id a (by simpa using b)) 32 x y h0 (by simpa using h2) (by simpa using h1) h3 (by simpa using h4) (by have : (2 : Int) ^ 64 = 18446744073709551616 := rfl; omega)
def prodS : Rx.Spec := fun a b => match a, b with
  | [.int .u64 x, .int .u64 y], [] => .need (decide (0 ≤ x) && decide (x ≤ 4611686018427387904) && decide (0 ≤ y) && decide (y ≤ 4611686018427387904)) (.leaf ⟨.agg [.int .u64 (x * y / 18446744073709551616), .int .u64 (x * y % 18446744073709551616)], [], []⟩)
  | _, _ => .fail
theorem prod_ok : SpecOK P 70 prodS := by
  refine specOK_fast (GammaOK.nil P) hm (Λ := loopsOf []) Tryd.func70 (by kernel_rfl) (LoopsOK.nil (by kernel_rfl)) ?_
  intro args bs r h
  unfold prodS at h
  split at h
  · rename_i x y
    rw [den_need, denLf] at h
    simp only [Bool.and_eq_true, decide_eq_true_eq] at h
    obtain ⟨⟨⟨⟨h1, h2⟩, h3⟩, h4⟩, h⟩ := h
    cases h
    refine denN_of ((prod_nf x y).trans ?_)
    have f (z : Int) : z.fdiv 4294967296 = z / 4294967296 := Int.fdiv_eq_ediv_of_nonneg _ (by decide)
    simp only [f]
    rw [u64_mask32 h1 (by omega), u64_mask32 h3 (by omega)]
    have ex : x = x / 4294967296 * 4294967296 + x % 4294967296 := by omega
    have ey : y = y / 4294967296 * 4294967296 + y % 4294967296 := by omega
    obtain ⟨ah, hah⟩ : ∃ v, v = x / 4294967296 := ⟨_, rfl⟩
    obtain ⟨al, hal⟩ : ∃ v, v = x % 4294967296 := ⟨_, rfl⟩
    obtain ⟨bh, hbh⟩ : ∃ v, v = y / 4294967296 := ⟨_, rfl⟩
    obtain ⟨bl, hbl⟩ : ∃ v, v = y % 4294967296 := ⟨_, rfl⟩
    rw [← hah, ← hal, ← hbh, ← hbl]
    have bah : 0 ≤ ah ∧ ah ≤ 1073741824 := by omega
    have bal : 0 ≤ al ∧ al ≤ 4294967295 := by omega
    have bbh : 0 ≤ bh ∧ bh ≤ 1073741824 := by omega
    have bbl : 0 ≤ bl ∧ bl ≤ 4294967295 := by omega
    have hxy : x * y = ah * bh * 18446744073709551616 + (ah * bl + al * bh) * 4294967296 + al * bl := by
      rw [ex, ey, ← hah, ← hal, ← hbh, ← hbl]
      simp only [Int.add_mul, Int.mul_add, Int.mul_assoc]
      rw [show ah * (4294967296 * (bh * 4294967296)) = ah * (bh * 18446744073709551616) by rw [← Int.mul_assoc 4294967296, Int.mul_comm 4294967296 bh, Int.mul_assoc bh]; rfl, show (4294967296 : Int) * bl = bl * 4294967296 by omega]
      omega
    have p (u v U V : Int) (hu : 0 ≤ u ∧ u ≤ U) (hv : 0 ≤ v ∧ v ≤ V) : 0 ≤ u * v ∧ u * v ≤ U * V := ⟨Int.mul_nonneg hu.1 hv.1, Int.mul_le_mul hu.2 hv.2 hv.1 (by omega)⟩
    have P1 := p _ _ _ _ bah bbh
    have P2 := p _ _ _ _ bah bbl
    have P3 := p _ _ _ _ bal bbh
    have P4 := p _ _ _ _ bal bbl
    generalize ah * bh = q1 at *
    generalize ah * bl = q2 at *
    generalize al * bh = q3 at *
    generalize al * bl = q4 at *
    rw [u64_id (n := q1) (by omega) (by omega), u64_id (n := q2) (by omega) (by omega), u64_id (n := q3) (by omega) (by omega), u64_id (n := q4) (by omega) (by omega),
      u64_mask32 (x := q2) (by omega) (by omega), u64_mask32 (x := q3) (by omega) (by omega), u64_mask32 (x := q4) (by omega) (by omega)]
    rw [u64_id (n := q4 / 4294967296 + q2 % 4294967296) (by omega) (by omega), u64_id (n := q4 / 4294967296 + q2 % 4294967296 + q3 % 4294967296) (by omega) (by omega), u64_id (n := q1 + q2 / 4294967296) (by omega) (by omega), u64_id (n := q1 + q2 / 4294967296 + q3 / 4294967296) (by omega) (by omega),
      u64_id (n := q1 + q2 / 4294967296 + q3 / 4294967296 + (q4 / 4294967296 + q2 % 4294967296 + q3 % 4294967296) / 4294967296) (by omega) (by omega),
      u64_or32 (x := IntKind.u64.wrap ((q4 / 4294967296 + q2 % 4294967296 + q3 % 4294967296) * 4294967296)) (by rw [wrap_u64]; omega) (by rw [wrap_u64]; omega) (by rw [wrap_u64]; omega) (by omega) (by omega), wrap_u64, hxy]
    rw [denLf]
    congr 4
    · congr 1; omega
    · congr 2; omega
  · simp [den_fail] at h
end Go.Proofs.YtbfiaogmfjadeaaDoor

set_option maxRecDepth 100000
set_option linter.unusedSimpArgs false
set_option linter.unusedVariables false
namespace Go.Proofs.YtbfiaogmfjadeaaDoor
open Go.Rx

def dvF (vals : List V) (bs : List Blk) : Tree LRes := match vals, bs with
  | [.int .u64 c, .ptr 0 0 0 0, .int .u64 q, .int .u64 left, .int .i64 k], [.cells [.int .u64 hi, .int .u64 lo]] =>
    .need (decide (k = 63) && decide (q = 0) && decide (left = hi) && decide (0 ≤ hi) && decide (hi < c) && decide (c ≤ 4611686018427387904) && decide (0 ≤ lo) && decide (lo < 18446744073709551616))
      (.leaf ⟨.exit 0, [.int .u64 ((hi * 18446744073709551616 + lo) / c), .int .u64 ((hi * 18446744073709551616 + lo) % c)], [none], []⟩)
  | _, _ => .fail
def dvL : LSpec := ⟨41, [1, 2, 4, 5, 7], [4, 5], dvF⟩
theorem dv_half {A c : Int} (hc : 0 < c) : (A / 2 % c * 2 + A % 2 < c → A / c = A / 2 / c * 2 ∧ A % c = A / 2 % c * 2 + A % 2) ∧ (¬ A / 2 % c * 2 + A % 2 < c → A / c = A / 2 / c * 2 + 1 ∧ A % c = A / 2 % c * 2 + A % 2 - c) := by
  have h1 := Int.mul_ediv_add_emod (A / 2) c
  have h2 := Int.emod_nonneg (A / 2) (show c ≠ 0 by omega)
  have h3 := Int.emod_lt_of_pos (A / 2) hc
  obtain ⟨q, hq⟩ : ∃ q, q = A / 2 / c := ⟨_, rfl⟩
  obtain ⟨r, hr⟩ : ∃ r, r = A / 2 % c := ⟨_, rfl⟩
  rw [← hq, ← hr] at h1
  rw [← hr] at h2 h3
  rw [← hq, ← hr]
  obtain ⟨m, hm⟩ : ∃ m, m = c * q := ⟨_, rfl⟩
  rw [← hm] at h1
  constructor
  · intro h
    exact (Int.ediv_emod_unique hc).2 ⟨by rw [← Int.mul_assoc, ← hm]; omega, by omega, h⟩
  · intro h
    exact (Int.ediv_emod_unique hc).2 ⟨by rw [Int.mul_add, ← Int.mul_assoc, ← hm]; omega, by omega, by omega⟩
theorem dv_bit {hi lo : Int} {k : Nat} (hk : k ≤ 63) : (hi * 18446744073709551616 + lo) / 2 ^ k % 2 = lo / 2 ^ k % 2 := by
  have hp : (0 : Int) < 2 ^ k := Int.pow_pos (by decide)
  have e : hi * 18446744073709551616 = (hi * (2 ^ (63 - k) * 2)) * 2 ^ k := by
    rw [Int.mul_assoc, Int.mul_comm (2 ^ (63 - k)) 2, Int.mul_assoc, ← Int.pow_add, show 63 - k + k = 63 by omega]
    rfl
  rw [e, Int.add_comm, Int.add_mul_ediv_right _ _ (by omega), ← Int.mul_assoc]
  omega
theorem dv_step (hi lo c : Int) (k : Nat) (A : Int) (hk : k ≤ 63) (hc : 0 < c) (h2 : c ≤ 4611686018427387904) (h3 : 0 ≤ lo) (h4 : lo < 18446744073709551616) (hA : 0 ≤ A) (hq : A / 2 / c < 9223372036854775808) (hb : A % 2 = lo / 2 ^ k % 2) :
    (evRound P (specsOf []) (loopsOf []) 41 [1, 2, 4, 5, 7] [4, 5] (loopAt Tryd.f69 0) [.int .u64 c, .ptr 0 0 0 0, .int .u64 (A / 2 / c), .int .u64 (A / 2 % c), .int .i64 (k : Int)] [.cells [.int .u64 hi, .int .u64 lo]]).den =
      some (if k = 0 then ⟨.exit 0, [.int .u64 (A / c), .int .u64 (A % c)], [none], []⟩ else ⟨.nrm, [.int .u64 c, .ptr 0 0 0 0, .int .u64 (A / c), .int .u64 (A % c), .int .i64 ((k : Int) - 1)], [none], []⟩) := by
  obtain ⟨g1, g2⟩ := dv_half (A := A) hc
  have r0 := Int.emod_nonneg (A / 2) (show c ≠ 0 by omega)
  have r1 := Int.emod_lt_of_pos (A / 2) hc
  have q0 : 0 ≤ A / 2 / c := Int.ediv_nonneg (by omega) (by omega)
  have hp : (0 : Int) < 2 ^ k := Int.pow_pos (by decide)
  have l0 : 0 ≤ lo / 2 ^ k := Int.ediv_nonneg h3 (by omega)
  have l1 : lo / 2 ^ k ≤ lo := Int.ediv_le_self _ h3
  have hk64 : min k 64 = k := by omega
  rw [dv_round]
  simp only [List.getD_cons_zero, List.getD_cons_succ, Int.toNat_natCast, hk64]
  rw [Int.fdiv_eq_ediv_of_nonneg _ (by omega), u64_mask1 l0 (by omega), ← hb, u64_id (n := A / 2 % c * 2) (by omega) (by omega), u64_or1 (x := A / 2 % c * 2) (by omega) (by omega) (by omega) (by omega) (by omega),
    u64_id (n := A / 2 / c * 2) (by omega) (by omega), u64_or1 (x := A / 2 / c * 2) (by omega) (by omega) (by omega) (by omega) (by omega), wrap64_id (n := (k : Int) - 1) (by omega) (by omega), show decide (0 ≤ (k : Int)) = true by simp]
  have hkb : ((k : Int) == 0) = decide (k = 0) := by rw [Bool.eq_iff_iff, beq_iff_eq, decide_eq_true_eq]; omega
  rw [hkb]
  by_cases hlt : A / 2 % c * 2 + A % 2 < c
  · obtain ⟨e1, e2⟩ := g1 hlt
    rw [e1, e2, show decide (A / 2 % c * 2 + A % 2 ≥ c) = false by simp; omega]
    by_cases h0 : k = 0
    · rw [if_pos h0, decide_eq_true h0]; rfl
    · rw [if_neg h0, decide_eq_false h0]; rfl
  · obtain ⟨e1, e2⟩ := g2 hlt
    rw [e1, e2, show decide (A / 2 % c * 2 + A % 2 ≥ c) = true by simp; omega, u64_id (n := A / 2 % c * 2 + A % 2 - c) (by omega) (by omega)]
    by_cases h0 : k = 0
    · rw [if_pos h0, decide_eq_true h0]; rfl
    · rw [if_neg h0, decide_eq_false h0]; rfl
theorem dv_rounds (hi lo c : Int) (h0 : 0 ≤ hi) (h1 : hi < c) (h2 : c ≤ 4611686018427387904) (h3 : 0 ≤ lo) (h4 : lo < 18446744073709551616) : ∀ (k : Nat), k ≤ 63 →
    (loopN P (specsOf []) (loopsOf []) 41 [1, 2, 4, 5, 7] [4, 5] (loopAt Tryd.f69 0) (k + 1) [.int .u64 c, .ptr 0 0 0 0, .int .u64 ((hi * 18446744073709551616 + lo) / 2 ^ k / 2 / c), .int .u64 ((hi * 18446744073709551616 + lo) / 2 ^ k / 2 % c), .int .i64 (k : Int)] [.cells [.int .u64 hi, .int .u64 lo]]).den =
      some ⟨.exit 0, [.int .u64 ((hi * 18446744073709551616 + lo) / c), .int .u64 ((hi * 18446744073709551616 + lo) % c)], [none], []⟩ := by
  intro k
  have hc : 0 < c := by omega
  have bd : ∀ j : Nat, 0 ≤ (hi * 18446744073709551616 + lo) / 2 ^ j ∧ (hi * 18446744073709551616 + lo) / 2 ^ j / 2 / c < 9223372036854775808 := by
    intro j
    have hp : (0 : Int) < 2 ^ j := Int.pow_pos (by decide)
    have a0 : 0 ≤ (hi * 18446744073709551616 + lo) / 2 ^ j := Int.ediv_nonneg (by omega) (by omega)
    have a1 : (hi * 18446744073709551616 + lo) / 2 ^ j ≤ hi * 18446744073709551616 + lo := Int.ediv_le_self _ (by omega)
    refine ⟨a0, Int.ediv_lt_of_lt_mul hc ?_⟩
    omega
  induction k with
  | zero =>
    intro hk
    obtain ⟨b0, b1⟩ := bd 0
    have hs := dv_step hi lo c 0 _ hk hc h2 h3 h4 b0 b1 (dv_bit hk)
    rw [if_pos rfl] at hs
    rw [show (hi * 18446744073709551616 + lo) / 2 ^ 0 = hi * 18446744073709551616 + lo by simp] at hs ⊢
    exact loopN_end hs (by simp)
  | succ k ih =>
    intro hk
    obtain ⟨b0, b1⟩ := bd (k + 1)
    have hs := dv_step hi lo c (k + 1) _ hk hc h2 h3 h4 b0 b1 (dv_bit hk)
    rw [if_neg (by omega)] at hs
    have ih := ih (by omega)
    have e : (hi * 18446744073709551616 + lo) / 2 ^ (k + 1) = (hi * 18446744073709551616 + lo) / 2 ^ k / 2 := by
      have hp : ¬ ((2 : Int) ^ k < 0 ∧ ¬ (2 : Int) ∣ (hi * 18446744073709551616 + lo) / 2 ^ k) := fun h => by
        have : (0 : Int) < 2 ^ k := Int.pow_pos (by decide)
        omega
      rw [Int.ediv_ediv, if_neg hp, Int.sub_zero, Int.pow_succ]
    rw [show ((k + 1 : Nat) : Int) - 1 = (k : Int) by omega] at hs
    rw [e] at hs ⊢
    exact loopN_step hs rfl (by kernel_rfl) rfl (by kernel_rfl) ih (by kernel_rfl)
theorem dv_loop : LoopOK P (loopAt Tryd.f69 0) dvL := by
  refine loop_ok (GammaOK.nil P) Go.Proofs.YtbfiaogmfjadeaaDoor.hm (Λ := loopsOf []) (LoopsOK.nil (by kernel_rfl)) _ ?_
  intro vals bs r h
  simp only [dvL, dvF] at h
  split at h
  · rename_i c q left k hi lo
    rw [den_need, denLf] at h
    simp only [Bool.and_eq_true, decide_eq_true_eq] at h
    obtain ⟨⟨⟨⟨⟨⟨⟨⟨rfl, rfl⟩, rfl⟩, h0⟩, h1⟩, h2⟩, h3⟩, h4⟩, h⟩ := h
    cases h
    have hc : 0 < c := by omega
    have e : (left * 18446744073709551616 + lo) / 2 ^ 63 / 2 = left := by
      rw [show (2 : Int) ^ 63 = 9223372036854775808 from rfl]; omega
    have := dv_rounds left lo c h0 h1 h2 h3 h4 63 (by decide)
    rw [e, Int.ediv_eq_zero_of_lt h0 h1, Int.emod_eq_of_lt h0 h1] at this
    exact ⟨64, this⟩
  · simp [den_fail] at h
def divS : Rx.Spec := fun a b => match a, b with
  | [.agg [.int .u64 hi, .int .u64 lo], .int .u64 c], [] => .need (decide (0 ≤ hi) && decide (1 ≤ c) && decide (c ≤ 4611686018427387904) && decide (0 ≤ lo) && decide (lo < 18446744073709551616))
      (.ite (decide (hi < c)) (.leaf ⟨.tup [.int .u64 ((hi * 18446744073709551616 + lo) / c), .int .u64 ((hi * 18446744073709551616 + lo) % c), .bool (decide ((hi * 18446744073709551616 + lo) / c < 9223372036854775808))], [], []⟩)
        (.leaf ⟨.tup [.int .u64 0, .int .u64 0, .bool false], [], []⟩))
  | _, _ => .fail
theorem div_ok : SpecOK P 69 divS := by
  refine specOK_fast (GammaOK.nil P) hm (Λ := loopsOf [(5, dvL)]) Tryd.func69 (by kernel_rfl) (LoopsOK.one (by kernel_rfl) dv_loop) ?_
  intro args bs r h
  unfold divS at h
  split at h
  · rename_i hi lo c
    rw [den_need, denI, denLf, denLf] at h
    simp only [Bool.and_eq_true, decide_eq_true_eq] at h
    obtain ⟨⟨⟨⟨⟨h0, h1⟩, h2⟩, h3⟩, h4⟩, h⟩ := h
    rw [show (fFn P (specsOf []) (loopsOf [(5, dvL)]) Tryd.f69 [.agg [.int .u64 hi, .int .u64 lo], .int .u64 c] []).denN = Tree.denN (Tree.ite (decide ([hi, lo].getD 0 0 ≥ c)) (Tree.leaf { v := V.tup [V.int IntKind.u64 0, V.int IntKind.u64 0, V.fls], upd := [], new := [] }) (Tree.ite (true && decide ([hi, lo].getD 0 0 = hi) && decide (0 ≤ hi) && decide (hi < c) && decide (c ≤ 4611686018427387904) && decide (0 ≤ lo) && decide (lo < 18446744073709551616)) (Tree.leaf { v := V.tup [V.int IntKind.u64 ((hi * 18446744073709551616 + lo) / c), V.int IntKind.u64 ((hi * 18446744073709551616 + lo) % c), V.bool (((hi * 18446744073709551616 + lo) / c).fdiv 9223372036854775808 == 0)], upd := [], new := [] }) Tree.fail)) from by kernel_rfl]
    simp only [denN_ite, denN_leaf, denN_fail]
    simp only [List.getD_cons_zero]
    by_cases hlt : hi < c
    · rw [if_pos hlt] at h; cases h
      have hq0 : 0 ≤ (hi * 18446744073709551616 + lo) / c := Int.ediv_nonneg (by omega) (by omega)
      rw [if_neg (by simp; omega), if_pos (by simp; omega), Int.fdiv_eq_ediv_of_nonneg _ (by decide)]
      have e : ((hi * 18446744073709551616 + lo) / c / 9223372036854775808 == 0) = decide ((hi * 18446744073709551616 + lo) / c < 9223372036854775808) := by
        rw [Bool.eq_iff_iff, beq_iff_eq, decide_eq_true_eq]; omega
      rw [e]
    · rw [if_neg hlt] at h; cases h
      rw [if_pos (by simp; omega)]; rfl
  · simp [den_fail] at h

/-! ### A product by a number -/
def quotB (a b c : Int) : Bool := smB a && smB b && smB c && decide (1 ≤ c) && decide ((a.natAbs : Int) * (b.natAbs : Int) / 18446744073709551616 < c)
def quotS : Rx.Spec := fun a b => match a, b with
  | [.int .i64 x, .int .i64 y, .int .i64 c], [] => .ite (smB x && smB y && smB c && decide (1 ≤ c))
      (.leaf ⟨.tup [.int .i64 (if decide ((x.natAbs : Int) * (y.natAbs : Int) / 18446744073709551616 < c) = true then IntKind.i64.wrap ((x.natAbs : Int) * (y.natAbs : Int) / c) else 0), .bool (decide (x < 0) != decide (y < 0)),
        .bool (decide ((x.natAbs : Int) * (y.natAbs : Int) / 18446744073709551616 < c) && decide (0 < (x.natAbs : Int) * (y.natAbs : Int) % c)),
        .bool (decide ((x.natAbs : Int) * (y.natAbs : Int) / 18446744073709551616 < c) && decide ((x.natAbs : Int) * (y.natAbs : Int) / c < 9223372036854775808))], [], []⟩)
      (.leaf ⟨.tup [.int .i64 0, .bool false, .bool false, .bool false], [], []⟩)
  | _, _ => .fail
abbrev qtG : List (Nat × Rx.Spec) := [(51, smallS), (71, absS), (70, prodS), (69, divS)]
theorem qtG_ok : GammaOK P qtG := .cons small_ok (.cons abs_ok (.cons prod_ok (.cons div_ok (.nil P))))
theorem quot_ok : SpecOK P 61 quotS := by
  refine specOK_fast qtG_ok hm (Λ := loopsOf []) Tryd.func61 (by kernel_rfl) (LoopsOK.nil (by kernel_rfl)) ?_
  intro args bs r h
  unfold quotS at h
  split at h
  · rename_i x y c
    rw [denI, denLf, denLf] at h
    rw [show (fFn P (specsOf qtG) (loopsOf []) Tryd.f61 [.int .i64 x, .int .i64 y, .int .i64 c] []).denN = Tree.denN (Tree.ite (![x, y, c].all smB) (Tree.leaf { v := V.tup [V.int IntKind.i64 0, V.fls, V.fls, V.fls], upd := [], new := [] }) (Tree.ite (decide (c < 1)) (Tree.leaf { v := V.tup [V.int IntKind.i64 0, V.fls, V.fls, V.fls], upd := [], new := [] }) (Tree.ite (decide (0 ≤ IntKind.u64.wrap (if smB x = true then (↑x.natAbs : Int) else 0)) && decide (IntKind.u64.wrap (if smB x = true then (↑x.natAbs : Int) else 0) ≤ 4611686018427387904) && decide (0 ≤ IntKind.u64.wrap (if smB y = true then (↑y.natAbs : Int) else 0)) && decide (IntKind.u64.wrap (if smB y = true then (↑y.natAbs : Int) else 0) ≤ 4611686018427387904)) (Tree.ite (decide (0 ≤ IntKind.u64.wrap (if smB x = true then (↑x.natAbs : Int) else 0) * IntKind.u64.wrap (if smB y = true then (↑y.natAbs : Int) else 0) / 18446744073709551616) && decide (1 ≤ IntKind.u64.wrap c) && decide (IntKind.u64.wrap c ≤ 4611686018427387904) && decide (0 ≤ IntKind.u64.wrap (if smB x = true then (↑x.natAbs : Int) else 0) * IntKind.u64.wrap (if smB y = true then (↑y.natAbs : Int) else 0) % 18446744073709551616) && decide (IntKind.u64.wrap (if smB x = true then (↑x.natAbs : Int) else 0) * IntKind.u64.wrap (if smB y = true then (↑y.natAbs : Int) else 0) % 18446744073709551616 < 18446744073709551616)) (Tree.ite (decide (IntKind.u64.wrap (if smB x = true then (↑x.natAbs : Int) else 0) * IntKind.u64.wrap (if smB y = true then (↑y.natAbs : Int) else 0) / 18446744073709551616 < IntKind.u64.wrap c)) (Tree.leaf { v := V.tup [V.int IntKind.i64 (IntKind.i64.wrap ((IntKind.u64.wrap (if smB x = true then (↑x.natAbs : Int) else 0) * IntKind.u64.wrap (if smB y = true then (↑y.natAbs : Int) else 0) / 18446744073709551616 * 18446744073709551616 + IntKind.u64.wrap (if smB x = true then (↑x.natAbs : Int) else 0) * IntKind.u64.wrap (if smB y = true then (↑y.natAbs : Int) else 0) % 18446744073709551616) / IntKind.u64.wrap c)), V.bool !decide (x < 0) == decide (y < 0), V.bool (decide ((IntKind.u64.wrap (if smB x = true then (↑x.natAbs : Int) else 0) * IntKind.u64.wrap (if smB y = true then (↑y.natAbs : Int) else 0) / 18446744073709551616 * 18446744073709551616 + IntKind.u64.wrap (if smB x = true then (↑x.natAbs : Int) else 0) * IntKind.u64.wrap (if smB y = true then (↑y.natAbs : Int) else 0) % 18446744073709551616) % IntKind.u64.wrap c > 0)), V.bool (decide ((IntKind.u64.wrap (if smB x = true then (↑x.natAbs : Int) else 0) * IntKind.u64.wrap (if smB y = true then (↑y.natAbs : Int) else 0) / 18446744073709551616 * 18446744073709551616 + IntKind.u64.wrap (if smB x = true then (↑x.natAbs : Int) else 0) * IntKind.u64.wrap (if smB y = true then (↑y.natAbs : Int) else 0) % 18446744073709551616) / IntKind.u64.wrap c < 9223372036854775808))], upd := [], new := [] }) (Tree.leaf { v := V.tup [V.int IntKind.i64 0, V.bool !decide (x < 0) == decide (y < 0), V.bool false, V.bool false], upd := [], new := [] })) Tree.fail) Tree.fail))) from by kernel_rfl]
    simp only [denN_ite, denN_leaf, denN_fail]
    simp only [List.all_cons, List.all_nil, Bool.and_true, ← Bool.and_assoc]
    cases hx : smB x with
    | false => rw [hx, if_neg (by simp)] at h; cases h; rfl
    | true =>
    cases hy : smB y with
    | false => rw [hx, hy, if_neg (by simp)] at h; cases h; rfl
    | true =>
    cases hz : smB c with
    | false => rw [hx, hy, hz, if_neg (by simp)] at h; cases h; rfl
    | true =>
    have gx := smB_iff.1 hx
    have gy := smB_iff.1 hy
    have gc := smB_iff.1 hz
    by_cases hc : c < 1
    · rw [hx, hy, hz, if_neg (by simp; omega)] at h; cases h
      rw [if_neg (by decide), if_pos (by simpa using hc)]; rfl
    rw [hx, hy, hz, if_pos (by simp; omega)] at h; cases h
    have ux : IntKind.u64.wrap (x.natAbs : Int) = (x.natAbs : Int) := u64_id (by omega) (by omega)
    have uy : IntKind.u64.wrap (y.natAbs : Int) = (y.natAbs : Int) := u64_id (by omega) (by omega)
    have uc : IntKind.u64.wrap c = c := u64_id (by omega) (by omega)
    simp only [if_true, ux, uy, uc]
    have px : 0 ≤ (x.natAbs : Int) ∧ (x.natAbs : Int) ≤ 4611686018427387904 := by omega
    have py : 0 ≤ (y.natAbs : Int) ∧ (y.natAbs : Int) ≤ 4611686018427387904 := by omega
    have hm0 : 0 ≤ (x.natAbs : Int) * (y.natAbs : Int) := Int.mul_nonneg px.1 py.1
    generalize (x.natAbs : Int) = X at *
    generalize (y.natAbs : Int) = Y at *
    generalize X * Y = M at *
    rw [if_neg (by decide), if_neg (by simpa using hc), if_pos (by simp; omega), if_pos (by simp; omega), show M / 18446744073709551616 * 18446744073709551616 + M % 18446744073709551616 = M by omega]
    have ene : (!decide (x < 0) == decide (y < 0)) = (decide (x < 0) != decide (y < 0)) := rfl
    by_cases hlt : M / 18446744073709551616 < c
    · rw [if_pos (by simpa using hlt), if_pos (by simpa using hlt), decide_eq_true hlt, Bool.true_and, Bool.true_and]
      rfl
    · rw [if_neg (by simpa using hlt), if_neg (by simpa using hlt), decide_eq_false hlt, Bool.false_and, Bool.false_and]
      rfl
  · simp [den_fail] at h

/-- A product by a number, down; if it may be. -/
def floorB (a b c : Int) : Bool := smB a && smB b && smB c && decide (1 ≤ c) && smB ((a * b) / c)
def floorS : Rx.Spec := fun a b => match a, b with
  | [.int .i64 x, .int .i64 y, .int .i64 c], [] => .ite (floorB x y c) (.leaf ⟨.tup [.int .i64 (x * y / c), .bool true], [], []⟩) (.leaf ⟨.tup [.int .i64 0, .bool false], [], []⟩)
  | _, _ => .fail
abbrev flG : List (Nat × Rx.Spec) := [(51, smallS), (61, quotS), (62, toldS.N)]
theorem flG_ok : GammaOK P flG := .cons small_ok (.cons quot_ok (.cons told_ok.N (.nil P)))
theorem floor_abs {x y c : Int} (hc : 1 ≤ c) : ((decide (x < 0) != decide (y < 0)) = false → x * y / c = (x.natAbs : Int) * (y.natAbs : Int) / c) ∧
    ((decide (x < 0) != decide (y < 0)) = true → (0 < (x.natAbs : Int) * (y.natAbs : Int) % c → x * y / c = -((x.natAbs : Int) * (y.natAbs : Int) / c) - 1) ∧ (¬ 0 < (x.natAbs : Int) * (y.natAbs : Int) % c → x * y / c = -((x.natAbs : Int) * (y.natAbs : Int) / c))) := by
  have neg (M : Int) : (0 < M % c → (-M) / c = -(M / c) - 1) ∧ (¬ 0 < M % c → (-M) / c = -(M / c)) := by
    have h1 := Int.mul_ediv_add_emod M c
    have h2 := Int.emod_nonneg M (show c ≠ 0 by omega)
    have h3 := Int.emod_lt_of_pos M (show 0 < c by omega)
    obtain ⟨m, hm⟩ : ∃ m, m = c * (M / c) := ⟨_, rfl⟩
    rw [← hm] at h1
    constructor
    · intro h
      exact ((Int.ediv_emod_unique (r := c - M % c) (show 0 < c by omega)).2 ⟨by rw [Int.mul_sub, Int.mul_neg, ← hm]; omega, by omega, by omega⟩).1
    · intro h
      exact ((Int.ediv_emod_unique (r := 0) (show 0 < c by omega)).2 ⟨by rw [Int.mul_neg, ← hm]; omega, by omega, by omega⟩).1
  by_cases hx : x < 0 <;> by_cases hy : y < 0
  · have e : x * y = (x.natAbs : Int) * (y.natAbs : Int) := by
      rw [show (x.natAbs : Int) = -x by omega, show (y.natAbs : Int) = -y by omega, Int.neg_mul_neg]
    rw [e]; simp [hx, hy]
  · have e : x * y = -((x.natAbs : Int) * (y.natAbs : Int)) := by
      rw [show (x.natAbs : Int) = -x by omega, show (y.natAbs : Int) = y by omega, Int.neg_mul, Int.neg_neg]
    rw [e]
    exact ⟨fun h => by simp [hx, hy] at h, fun _ => neg _⟩
  · have e : x * y = -((x.natAbs : Int) * (y.natAbs : Int)) := by
      rw [show (x.natAbs : Int) = x by omega, show (y.natAbs : Int) = -y by omega, Int.mul_neg, Int.neg_neg]
    rw [e]
    exact ⟨fun h => by simp [hx, hy] at h, fun _ => neg _⟩
  · have e : x * y = (x.natAbs : Int) * (y.natAbs : Int) := by
      rw [show (x.natAbs : Int) = x by omega, show (y.natAbs : Int) = y by omega]
    rw [e]; simp [hx, hy]
theorem floor_ok : SpecOK P 49 floorS := by
  refine specOK_fast flG_ok hm (Λ := loopsOf []) Tryd.func49 (by kernel_rfl) (LoopsOK.nil (by kernel_rfl)) ?_
  intro args bs r h
  unfold floorS at h
  split at h
  · rename_i x y c
    rw [denI, denLf, denLf] at h
    rw [show (fFn P (specsOf flG) (loopsOf []) Tryd.f49 [.int .i64 x, .int .i64 y, .int .i64 c] []).denN = Tree.denN (Tree.ite (smB x && smB y && smB c && decide (1 ≤ c)) (Tree.ite (!(decide ((↑x.natAbs : Int) * (↑y.natAbs : Int) / 18446744073709551616 < c) && decide ((↑x.natAbs : Int) * (↑y.natAbs : Int) / c < 9223372036854775808))) (Tree.leaf { v := V.tup [V.int IntKind.i64 0, V.fls], upd := [], new := [] }) (Tree.ite (![if decide ((↑x.natAbs : Int) * (↑y.natAbs : Int) / 18446744073709551616 < c) = true then IntKind.i64.wrap ((↑x.natAbs : Int) * (↑y.natAbs : Int) / c) else 0].all smB) (Tree.leaf { v := V.tup [V.int IntKind.i64 0, V.fls], upd := [], new := [] }) (Tree.ite (!decide (x < 0) != decide (y < 0)) (Tree.leaf { v := V.tup [V.int IntKind.i64 (if decide ((↑x.natAbs : Int) * (↑y.natAbs : Int) / 18446744073709551616 < c) = true then IntKind.i64.wrap ((↑x.natAbs : Int) * (↑y.natAbs : Int) / c) else 0), V.tru], upd := [], new := [] }) (Tree.ite (decide ((↑x.natAbs : Int) * (↑y.natAbs : Int) / 18446744073709551616 < c) && decide (0 < (↑x.natAbs : Int) * (↑y.natAbs : Int) % c)) (Tree.ite (true && smB (IntKind.i64.wrap (IntKind.i64.wrap (0 - if decide ((↑x.natAbs : Int) * (↑y.natAbs : Int) / 18446744073709551616 < c) = true then IntKind.i64.wrap ((↑x.natAbs : Int) * (↑y.natAbs : Int) / c) else 0) - 1))) (Tree.leaf { v := V.tup [V.int IntKind.i64 (IntKind.i64.wrap (IntKind.i64.wrap (0 - if decide ((↑x.natAbs : Int) * (↑y.natAbs : Int) / 18446744073709551616 < c) = true then IntKind.i64.wrap ((↑x.natAbs : Int) * (↑y.natAbs : Int) / c) else 0) - 1)), V.bool true], upd := [], new := [] }) (Tree.leaf { v := V.tup [V.int IntKind.i64 0, V.bool false], upd := [], new := [] })) (Tree.leaf { v := V.tup [V.int IntKind.i64 (IntKind.i64.wrap (0 - if decide ((↑x.natAbs : Int) * (↑y.natAbs : Int) / 18446744073709551616 < c) = true then IntKind.i64.wrap ((↑x.natAbs : Int) * (↑y.natAbs : Int) / c) else 0)), V.tru], upd := [], new := [] }))))) (Tree.leaf { v := V.tup [V.int IntKind.i64 0, V.fls], upd := [], new := [] })) from by kernel_rfl]
    simp only [denN_ite, denN_leaf, denN_fail]
    simp only [List.all_cons, List.all_nil, Bool.and_true, Bool.true_and]
    unfold floorB at h
    cases h0 : (smB x && smB y && smB c && decide (1 ≤ c)) with
    | false => rw [h0, Bool.false_and, if_neg (by decide)] at h; cases h; rfl
    | true =>
    rw [h0, Bool.true_and] at h
    rw [if_pos rfl]
    simp only [Bool.and_eq_true, decide_eq_true_eq, smB_iff] at h0
    obtain ⟨⟨⟨gx, gy⟩, gc⟩, hc⟩ := h0
    obtain ⟨f1, f2⟩ := floor_abs (x := x) (y := y) hc
    have px : 0 ≤ (x.natAbs : Int) ∧ (x.natAbs : Int) ≤ 4611686018427387904 := by omega
    have py : 0 ≤ (y.natAbs : Int) ∧ (y.natAbs : Int) ≤ 4611686018427387904 := by omega
    have hm0 : 0 ≤ (x.natAbs : Int) * (y.natAbs : Int) := Int.mul_nonneg px.1 py.1
    have hsm (n : Int) : smB n = true ↔ -4611686018427387904 ≤ n ∧ n ≤ 4611686018427387904 := smB_iff
    generalize (x.natAbs : Int) = X at *
    generalize (y.natAbs : Int) = Y at *
    generalize X * Y = M at *
    have q0 : 0 ≤ M / c := Int.ediv_nonneg hm0 (by omega)
    have r0 := Int.emod_nonneg M (show c ≠ 0 by omega)
    by_cases hlt : M / 18446744073709551616 < c
    · rw [decide_eq_true hlt, Bool.true_and, Bool.true_and]
      by_cases h63 : M / c < 9223372036854775808
      · rw [if_neg (by rw [decide_eq_true h63]; decide)]
        simp only [if_true]
        rw [wrap64_id (n := M / c) (by omega) (by omega)]
        by_cases hq : M / c ≤ 4611686018427387904
        · have e1 : smB (M / c) = true := (hsm _).2 (by omega)
          rw [e1, if_neg (by decide)]
          cases hs : (decide (x < 0) != decide (y < 0)) with
          | false =>
            rw [f1 hs, e1, if_pos rfl] at h; cases h
            rw [if_pos (by rfl)]
            rfl
          | true =>
            obtain ⟨f3, f4⟩ := f2 hs
            rw [if_neg (by decide)]
            by_cases hmo : 0 < M % c
            · rw [f3 hmo] at h
              rw [if_pos (by simpa using hmo), wrap64_id (n := 0 - M / c) (by omega) (by omega), wrap64_id (n := 0 - M / c - 1) (by omega) (by omega), show 0 - M / c - 1 = -(M / c) - 1 by omega]
              cases e3 : smB (-(M / c) - 1) <;> rw [e3] at h <;> cases h <;> rfl
            · rw [f4 hmo] at h
              have e3 : smB (-(M / c)) = true := (hsm _).2 (by omega)
              rw [e3, if_pos rfl] at h; cases h
              rw [if_neg (by simpa using hmo), wrap64_id (n := 0 - M / c) (by omega) (by omega), show 0 - M / c = -(M / c) by omega]
              rfl
        · have e1 : smB (M / c) = false := by
            cases e : smB (M / c) with
            | true => have := (hsm _).1 e; omega
            | false => rfl
          rw [e1, if_pos (by decide)]
          have e2 : smB (x * y / c) = false := by
            cases e : smB (x * y / c) with
            | false => rfl
            | true =>
              have := (hsm _).1 e
              cases hs : (decide (x < 0) != decide (y < 0)) with
              | false => have := f1 hs; omega
              | true =>
                obtain ⟨f3, f4⟩ := f2 hs
                by_cases hmo : 0 < M % c
                · have := f3 hmo; omega
                · have := f4 hmo; omega
          rw [e2, if_neg (by decide)] at h; cases h; rfl
      · rw [if_pos (by rw [decide_eq_false h63]; decide)]
        have e2 : smB (x * y / c) = false := by
          cases e : smB (x * y / c) with
          | false => rfl
          | true =>
            have := (hsm _).1 e
            cases hs : (decide (x < 0) != decide (y < 0)) with
            | false => have := f1 hs; omega
            | true =>
              obtain ⟨f3, f4⟩ := f2 hs
              by_cases hmo : 0 < M % c
              · have := f3 hmo; omega
              · have := f4 hmo; omega
        rw [e2, if_neg (by decide)] at h; cases h; rfl
    · rw [decide_eq_false hlt, Bool.false_and, if_pos (by decide)]
      have hbig : 18446744073709551616 ≤ M / c := by
        have h1 := Int.mul_ediv_add_emod M c
        have h3 := Int.emod_lt_of_pos M (show 0 < c by omega)
        have h2 : c * 18446744073709551616 ≤ M := by omega
        exact (Int.le_ediv_iff_mul_le (show 0 < c by omega)).2 (by omega)
      have e2 : smB (x * y / c) = false := by
        cases e : smB (x * y / c) with
        | false => rfl
        | true =>
          have := (hsm _).1 e
          cases hs : (decide (x < 0) != decide (y < 0)) with
          | false => have := f1 hs; omega
          | true =>
            obtain ⟨f3, f4⟩ := f2 hs
            by_cases hmo : 0 < M % c
            · have := f3 hmo; omega
            · have := f4 hmo; omega
      rw [e2, if_neg (by decide)] at h; cases h; rfl
  · simp [den_fail] at h
end Go.Proofs.YtbfiaogmfjadeaaDoor

set_option maxRecDepth 100000
set_option linter.unusedSimpArgs false
set_option linter.unusedVariables false
namespace Go.Proofs.YtbfiaogmfjadeaaDoor
open Go.Rx

def spB (lo hi : Int) : Bool := smB lo && smB hi && decide (lo ≤ hi)
def spOfS : Rx.Spec := fun a b => match a, b with
  | [.int .i64 lo, .int .i64 hi], [] => .ite (spB lo hi) (.leaf ⟨.agg [.int .i64 lo, .int .i64 hi, .bool true], [], []⟩) (.leaf ⟨.agg [.int .i64 0, .int .i64 0, .bool false], [], []⟩)
  | _, _ => .fail
theorem spOf_ok : SpecOK P 31 spOfS := by
  refine specOK_fast smG_ok hm (Λ := loopsOf []) Tryd.func31 (by kernel_rfl) (LoopsOK.nil (by kernel_rfl)) ?_
  intro args bs r h
  unfold spOfS at h
  split at h
  · rename_i lo hi
    rw [denI, denLf, denLf] at h
    rw [show (fFn P (specsOf smG) (loopsOf []) Tryd.f31 [.int .i64 lo, .int .i64 hi] []).denN = Tree.denN (Tree.ite (![lo, hi].all smB) (Tree.leaf { v := V.agg [V.int IntKind.i64 0, V.int IntKind.i64 0, V.fls], upd := [], new := [] }) (Tree.ite (decide (lo > hi)) (Tree.leaf { v := V.agg [V.int IntKind.i64 0, V.int IntKind.i64 0, V.fls], upd := [], new := [] }) (Tree.leaf { v := V.agg [V.int IntKind.i64 lo, V.int IntKind.i64 hi, V.tru], upd := [], new := [] }))) from by kernel_rfl]
    simp only [denN_ite, denN_leaf, denN_fail]
    simp only [List.all_cons, List.all_nil, Bool.and_true]
    cases h1 : smB lo <;> cases h2 : smB hi <;> simp only [spB, h1, h2, Bool.true_and, Bool.false_and, Bool.and_false, Bool.and_true] at h
    · cases h; rfl
    · cases h; rfl
    · cases h; rfl
    · by_cases h3 : lo ≤ hi
      · rw [decide_eq_true h3] at h; cases h
        rw [show decide (lo > hi) = false from decide_eq_false (by omega)]; rfl
      · rw [decide_eq_false h3] at h; cases h
        rw [show decide (lo > hi) = true from decide_eq_true (by omega)]; rfl
  · simp [den_fail] at h
abbrev spG : List (Nat × Rx.Spec) := [(31, spOfS)]
theorem spG_ok : GammaOK P spG := .cons spOf_ok (.nil P)
def spRB (lo hi : Int) (k : Bool) : Bool := (!k && decide (lo = 0) && decide (hi = 0)) || (k && spB lo hi)
def spRS : Rx.Spec := fun a b => match a, b with
  | [.agg [.int .i64 lo, .int .i64 hi, .bool k]], [] => .leaf ⟨.bool (spRB lo hi k), [], []⟩
  | _, _ => .fail
theorem spR_ok : SpecOK P 48 spRS := by
  refine specOK_fast spG_ok hm (Λ := loopsOf []) Tryd.func48 (by kernel_rfl) (LoopsOK.nil (by kernel_rfl)) ?_
  intro args bs r h
  unfold spRS at h
  split at h
  · rename_i lo hi k
    rw [denLf] at h
    rw [show (fFn P (specsOf spG) (loopsOf []) Tryd.f48 [.agg [.int .i64 lo, .int .i64 hi, .bool k]] []).denN = Tree.denN (Tree.ite (lo == 0 && (hi == 0 && (k == false && true))) (Tree.leaf { v := V.tru, upd := [], new := [] }) (Tree.ite k (Tree.ite (spB lo hi) (Tree.leaf { v := V.bool (lo == lo && (hi == hi && (k == true && true))), upd := [], new := [] }) (Tree.leaf { v := V.bool (lo == 0 && (hi == 0 && (k == false && true))), upd := [], new := [] })) (Tree.leaf { v := V.fls, upd := [], new := [] }))) from by kernel_rfl]
    simp only [denN_ite, denN_leaf, denN_fail]
    cases h
    have e1 : (lo == 0) = decide (lo = 0) := by rw [Bool.eq_iff_iff, beq_iff_eq, decide_eq_true_eq]
    have e2 : (hi == 0) = decide (hi = 0) := by rw [Bool.eq_iff_iff, beq_iff_eq, decide_eq_true_eq]
    have e3 : (lo == lo) = true := by rw [beq_iff_eq]
    have e4 : (hi == hi) = true := by rw [beq_iff_eq]
    unfold spRB
    simp only [e1, e2, e3, e4]
    generalize decide (lo = 0) = x1
    generalize decide (hi = 0) = x2
    generalize spB lo hi = x3
    cases x1 <;> cases x2 <;> cases x3 <;> cases k <;> rfl
  · simp [den_fail] at h
def rsmS : Rx.Spec := fun a b => match a, b with
  | [.int .i64 n], [] => .leaf ⟨.bool (smB n), [], []⟩
  | _, _ => .fail
theorem rsm_ok : SpecOK P 63 rsmS := by
  refine specOK_fast (GammaOK.nil P) hm (Λ := loopsOf []) Tryd.func63 (by kernel_rfl) (LoopsOK.nil (by kernel_rfl)) ?_
  intro args bs r h
  unfold rsmS at h
  split at h
  · rename_i n
    rw [denLf] at h
    rw [show (fFn P (specsOf []) (loopsOf []) Tryd.f63 [.int .i64 n] []).denN = Tree.denN (Tree.ite (decide (n ≥ -4611686018427387904)) (Tree.leaf { v := V.bool (decide (n ≤ 4611686018427387904)), upd := [], new := [] }) (Tree.leaf { v := V.fls, upd := [], new := [] })) from by kernel_rfl]
    simp only [denN_ite, denN_leaf, denN_fail]
    cases h
    have e1 : smB n = (decide (n ≥ -4611686018427387904) && decide (n ≤ 4611686018427387904)) := rfl
    rw [e1]
    generalize decide (n ≥ -4611686018427387904) = x1
    generalize decide (n ≤ 4611686018427387904) = x2
    cases x1 <;> cases x2 <;> rfl
  · simp [den_fail] at h
abbrev rspG : List (Nat × Rx.Spec) := [(63, rsmS)]
theorem rspG_ok : GammaOK P rspG := .cons rsm_ok (.nil P)
theorem rspR_ok : SpecOK P 50 spRS := by
  refine specOK_fast rspG_ok hm (Λ := loopsOf []) Tryd.func50 (by kernel_rfl) (LoopsOK.nil (by kernel_rfl)) ?_
  intro args bs r h
  unfold spRS at h
  split at h
  · rename_i lo hi k
    rw [denLf] at h
    rw [show (fFn P (specsOf rspG) (loopsOf []) Tryd.f50 [.agg [.int .i64 lo, .int .i64 hi, .bool k]] []).denN = Tree.denN (Tree.ite (!k) (Tree.ite (lo == 0) (Tree.leaf { v := V.bool (hi == 0), upd := [], new := [] }) (Tree.leaf { v := V.fls, upd := [], new := [] })) (Tree.ite (decide (lo ≤ hi)) (Tree.ite (smB lo) (Tree.leaf { v := V.bool (smB hi), upd := [], new := [] }) (Tree.leaf { v := V.fls, upd := [], new := [] })) (Tree.leaf { v := V.fls, upd := [], new := [] }))) from by kernel_rfl]
    simp only [denN_ite, denN_leaf, denN_fail]
    cases h
    have e1 : (lo == 0) = decide (lo = 0) := by rw [Bool.eq_iff_iff, beq_iff_eq, decide_eq_true_eq]
    have e2 : (hi == 0) = decide (hi = 0) := by rw [Bool.eq_iff_iff, beq_iff_eq, decide_eq_true_eq]
    unfold spRB spB
    simp only [e1, e2]
    generalize decide (lo = 0) = x1
    generalize decide (hi = 0) = x2
    generalize decide (lo ≤ hi) = x3
    generalize smB lo = x4
    generalize smB hi = x5
    cases x1 <;> cases x2 <;> cases x3 <;> cases x4 <;> cases x5 <;> cases k <;> rfl
  · simp [den_fail] at h
def spsB (n : Nte) (lo hi : Int) (k : Bool) : Bool := k && spB lo hi && decide (0 ≤ lo) && byB n (lo / 1000000000) && byB n (hi / 1000000000)
def spsS : Rx.Spec := fun a b => match a, b with
  | [v, .agg [.int .i64 lo, .int .i64 hi, .bool k]], [] => match Nte.of v with
    | some n => .ite (spsB n lo hi k) (.leaf ⟨.tup [(byL n (lo / 1000000000)).v, (byL n (hi / 1000000000)).v, .bool true], [], []⟩) (.leaf ⟨.tup [Lab.zero.v, Lab.zero.v, .bool false], [], []⟩)
    | none => .fail
  | _, _ => .fail
abbrev spsG : List (Nat × Rx.Spec) := [(48, spRS), (49, floorS), (27, byS)]
theorem spsG_ok : GammaOK P spsG := .cons spR_ok (.cons floor_ok (.cons by_ok (.nil P)))
theorem sps_ok : SpecOK P 29 spsS := by
  refine specOK_fast spsG_ok hm (Λ := loopsOf []) Tryd.func29 (by kernel_rfl) (LoopsOK.nil (by kernel_rfl)) ?_
  intro args bs r h
  unfold spsS at h
  split at h
  · split at h
    · rename_i v lo hi k _ n hn
      rw [Nte.of_eq hn]
      rw [denI, denLf, denLf] at h
      rw [show (fFn P (specsOf spsG) (loopsOf []) Tryd.f29 [n.v, .agg [.int .i64 lo, .int .i64 hi, .bool k]] []).denN = Tree.denN (Tree.ite (!k) (Tree.leaf { v := V.tup [V.agg [V.int IntKind.i64 0, V.int IntKind.i64 0, V.int IntKind.i64 0, V.int IntKind.i64 0, V.int IntKind.i64 0, V.int IntKind.i64 0], V.agg [V.int IntKind.i64 0, V.int IntKind.i64 0, V.int IntKind.i64 0, V.int IntKind.i64 0, V.int IntKind.i64 0, V.int IntKind.i64 0], V.fls], upd := [], new := [] }) (Tree.ite (!spRB lo hi k) (Tree.leaf { v := V.tup [V.agg [V.int IntKind.i64 0, V.int IntKind.i64 0, V.int IntKind.i64 0, V.int IntKind.i64 0, V.int IntKind.i64 0, V.int IntKind.i64 0], V.agg [V.int IntKind.i64 0, V.int IntKind.i64 0, V.int IntKind.i64 0, V.int IntKind.i64 0, V.int IntKind.i64 0, V.int IntKind.i64 0], V.fls], upd := [], new := [] }) (Tree.ite (decide (lo < 0)) (Tree.leaf { v := V.tup [V.agg [V.int IntKind.i64 0, V.int IntKind.i64 0, V.int IntKind.i64 0, V.int IntKind.i64 0, V.int IntKind.i64 0, V.int IntKind.i64 0], V.agg [V.int IntKind.i64 0, V.int IntKind.i64 0, V.int IntKind.i64 0, V.int IntKind.i64 0, V.int IntKind.i64 0, V.int IntKind.i64 0], V.fls], upd := [], new := [] }) (Tree.ite (floorB lo 1 1000000000) (Tree.ite (floorB hi 1 1000000000) (Tree.ite (byB n (lo * 1 / 1000000000)) (Tree.ite (byB n (hi * 1 / 1000000000)) (Tree.leaf { v := V.tup [V.agg [V.int IntKind.i64 (byL n (lo * 1 / 1000000000)).1, V.int IntKind.i64 (byL n (lo * 1 / 1000000000)).2, V.int IntKind.i64 (byL n (lo * 1 / 1000000000)).3, V.int IntKind.i64 (byL n (lo * 1 / 1000000000)).4, V.int IntKind.i64 (byL n (lo * 1 / 1000000000)).5, V.int IntKind.i64 (byL n (lo * 1 / 1000000000)).6], V.agg [V.int IntKind.i64 (byL n (hi * 1 / 1000000000)).1, V.int IntKind.i64 (byL n (hi * 1 / 1000000000)).2, V.int IntKind.i64 (byL n (hi * 1 / 1000000000)).3, V.int IntKind.i64 (byL n (hi * 1 / 1000000000)).4, V.int IntKind.i64 (byL n (hi * 1 / 1000000000)).5, V.int IntKind.i64 (byL n (hi * 1 / 1000000000)).6], V.tru], upd := [], new := [] }) (Tree.leaf { v := V.tup [V.agg [V.int IntKind.i64 0, V.int IntKind.i64 0, V.int IntKind.i64 0, V.int IntKind.i64 0, V.int IntKind.i64 0, V.int IntKind.i64 0], V.agg [V.int IntKind.i64 0, V.int IntKind.i64 0, V.int IntKind.i64 0, V.int IntKind.i64 0, V.int IntKind.i64 0, V.int IntKind.i64 0], V.fls], upd := [], new := [] })) (Tree.ite (byB n (hi * 1 / 1000000000)) (Tree.leaf { v := V.tup [V.agg [V.int IntKind.i64 0, V.int IntKind.i64 0, V.int IntKind.i64 0, V.int IntKind.i64 0, V.int IntKind.i64 0, V.int IntKind.i64 0], V.agg [V.int IntKind.i64 0, V.int IntKind.i64 0, V.int IntKind.i64 0, V.int IntKind.i64 0, V.int IntKind.i64 0, V.int IntKind.i64 0], V.fls], upd := [], new := [] }) (Tree.leaf { v := V.tup [V.agg [V.int IntKind.i64 0, V.int IntKind.i64 0, V.int IntKind.i64 0, V.int IntKind.i64 0, V.int IntKind.i64 0, V.int IntKind.i64 0], V.agg [V.int IntKind.i64 0, V.int IntKind.i64 0, V.int IntKind.i64 0, V.int IntKind.i64 0, V.int IntKind.i64 0, V.int IntKind.i64 0], V.fls], upd := [], new := [] }))) (Tree.ite (byB n (lo * 1 / 1000000000)) (Tree.ite (byB n 0) (Tree.leaf { v := V.tup [V.agg [V.int IntKind.i64 (byL n (lo * 1 / 1000000000)).1, V.int IntKind.i64 (byL n (lo * 1 / 1000000000)).2, V.int IntKind.i64 (byL n (lo * 1 / 1000000000)).3, V.int IntKind.i64 (byL n (lo * 1 / 1000000000)).4, V.int IntKind.i64 (byL n (lo * 1 / 1000000000)).5, V.int IntKind.i64 (byL n (lo * 1 / 1000000000)).6], V.agg [V.int IntKind.i64 (byL n 0).1, V.int IntKind.i64 (byL n 0).2, V.int IntKind.i64 (byL n 0).3, V.int IntKind.i64 (byL n 0).4, V.int IntKind.i64 (byL n 0).5, V.int IntKind.i64 (byL n 0).6], V.tru], upd := [], new := [] }) (Tree.leaf { v := V.tup [V.agg [V.int IntKind.i64 0, V.int IntKind.i64 0, V.int IntKind.i64 0, V.int IntKind.i64 0, V.int IntKind.i64 0, V.int IntKind.i64 0], V.agg [V.int IntKind.i64 0, V.int IntKind.i64 0, V.int IntKind.i64 0, V.int IntKind.i64 0, V.int IntKind.i64 0, V.int IntKind.i64 0], V.fls], upd := [], new := [] })) (Tree.ite (byB n 0) (Tree.leaf { v := V.tup [V.agg [V.int IntKind.i64 0, V.int IntKind.i64 0, V.int IntKind.i64 0, V.int IntKind.i64 0, V.int IntKind.i64 0, V.int IntKind.i64 0], V.agg [V.int IntKind.i64 0, V.int IntKind.i64 0, V.int IntKind.i64 0, V.int IntKind.i64 0, V.int IntKind.i64 0, V.int IntKind.i64 0], V.fls], upd := [], new := [] }) (Tree.leaf { v := V.tup [V.agg [V.int IntKind.i64 0, V.int IntKind.i64 0, V.int IntKind.i64 0, V.int IntKind.i64 0, V.int IntKind.i64 0, V.int IntKind.i64 0], V.agg [V.int IntKind.i64 0, V.int IntKind.i64 0, V.int IntKind.i64 0, V.int IntKind.i64 0, V.int IntKind.i64 0, V.int IntKind.i64 0], V.fls], upd := [], new := [] })))) (Tree.ite (floorB hi 1 1000000000) (Tree.ite (byB n 0) (Tree.ite (byB n (hi * 1 / 1000000000)) (Tree.leaf { v := V.tup [V.agg [V.int IntKind.i64 (byL n 0).1, V.int IntKind.i64 (byL n 0).2, V.int IntKind.i64 (byL n 0).3, V.int IntKind.i64 (byL n 0).4, V.int IntKind.i64 (byL n 0).5, V.int IntKind.i64 (byL n 0).6], V.agg [V.int IntKind.i64 (byL n (hi * 1 / 1000000000)).1, V.int IntKind.i64 (byL n (hi * 1 / 1000000000)).2, V.int IntKind.i64 (byL n (hi * 1 / 1000000000)).3, V.int IntKind.i64 (byL n (hi * 1 / 1000000000)).4, V.int IntKind.i64 (byL n (hi * 1 / 1000000000)).5, V.int IntKind.i64 (byL n (hi * 1 / 1000000000)).6], V.tru], upd := [], new := [] }) (Tree.leaf { v := V.tup [V.agg [V.int IntKind.i64 0, V.int IntKind.i64 0, V.int IntKind.i64 0, V.int IntKind.i64 0, V.int IntKind.i64 0, V.int IntKind.i64 0], V.agg [V.int IntKind.i64 0, V.int IntKind.i64 0, V.int IntKind.i64 0, V.int IntKind.i64 0, V.int IntKind.i64 0, V.int IntKind.i64 0], V.fls], upd := [], new := [] })) (Tree.ite (byB n (hi * 1 / 1000000000)) (Tree.leaf { v := V.tup [V.agg [V.int IntKind.i64 0, V.int IntKind.i64 0, V.int IntKind.i64 0, V.int IntKind.i64 0, V.int IntKind.i64 0, V.int IntKind.i64 0], V.agg [V.int IntKind.i64 0, V.int IntKind.i64 0, V.int IntKind.i64 0, V.int IntKind.i64 0, V.int IntKind.i64 0, V.int IntKind.i64 0], V.fls], upd := [], new := [] }) (Tree.leaf { v := V.tup [V.agg [V.int IntKind.i64 0, V.int IntKind.i64 0, V.int IntKind.i64 0, V.int IntKind.i64 0, V.int IntKind.i64 0, V.int IntKind.i64 0], V.agg [V.int IntKind.i64 0, V.int IntKind.i64 0, V.int IntKind.i64 0, V.int IntKind.i64 0, V.int IntKind.i64 0, V.int IntKind.i64 0], V.fls], upd := [], new := [] }))) (Tree.ite (byB n 0) (Tree.ite (byB n 0) (Tree.leaf { v := V.tup [V.agg [V.int IntKind.i64 (byL n 0).1, V.int IntKind.i64 (byL n 0).2, V.int IntKind.i64 (byL n 0).3, V.int IntKind.i64 (byL n 0).4, V.int IntKind.i64 (byL n 0).5, V.int IntKind.i64 (byL n 0).6], V.agg [V.int IntKind.i64 (byL n 0).1, V.int IntKind.i64 (byL n 0).2, V.int IntKind.i64 (byL n 0).3, V.int IntKind.i64 (byL n 0).4, V.int IntKind.i64 (byL n 0).5, V.int IntKind.i64 (byL n 0).6], V.tru], upd := [], new := [] }) (Tree.leaf { v := V.tup [V.agg [V.int IntKind.i64 0, V.int IntKind.i64 0, V.int IntKind.i64 0, V.int IntKind.i64 0, V.int IntKind.i64 0, V.int IntKind.i64 0], V.agg [V.int IntKind.i64 0, V.int IntKind.i64 0, V.int IntKind.i64 0, V.int IntKind.i64 0, V.int IntKind.i64 0, V.int IntKind.i64 0], V.fls], upd := [], new := [] })) (Tree.ite (byB n 0) (Tree.leaf { v := V.tup [V.agg [V.int IntKind.i64 0, V.int IntKind.i64 0, V.int IntKind.i64 0, V.int IntKind.i64 0, V.int IntKind.i64 0, V.int IntKind.i64 0], V.agg [V.int IntKind.i64 0, V.int IntKind.i64 0, V.int IntKind.i64 0, V.int IntKind.i64 0, V.int IntKind.i64 0, V.int IntKind.i64 0], V.fls], upd := [], new := [] }) (Tree.leaf { v := V.tup [V.agg [V.int IntKind.i64 0, V.int IntKind.i64 0, V.int IntKind.i64 0, V.int IntKind.i64 0, V.int IntKind.i64 0, V.int IntKind.i64 0], V.agg [V.int IntKind.i64 0, V.int IntKind.i64 0, V.int IntKind.i64 0, V.int IntKind.i64 0, V.int IntKind.i64 0, V.int IntKind.i64 0], V.fls], upd := [], new := [] })))))))) from by kernel_rfl]
      simp only [denN_ite, denN_leaf, denN_fail]
      cases k with
      | false =>
        rw [show spsB n lo hi false = false from rfl, if_neg (by decide)] at h; cases h; rfl
      | true =>
        have eR : spRB lo hi true = spB lo hi := by unfold spRB; simp
        rw [eR]
        cases hs : spB lo hi with
        | false => rw [show spsB n lo hi true = false by simp [spsB, hs], if_neg (by decide)] at h; cases h; rfl
        | true =>
          by_cases h0 : 0 ≤ lo
          · have hb : smB lo = true ∧ smB hi = true ∧ lo ≤ hi := by simpa [spB, and_assoc] using hs
            obtain ⟨b1, b2, b3⟩ := hb
            have b1' := smB_iff.1 b1
            have b2' := smB_iff.1 b2
            have f1 : floorB lo 1 1000000000 = true := by
              have : smB (lo * 1 / 1000000000) = true := smB_iff.2 (by omega)
              simp only [floorB, b1, this]; rfl
            have f2 : floorB hi 1 1000000000 = true := by
              have : smB (hi * 1 / 1000000000) = true := smB_iff.2 (by omega)
              simp only [floorB, b2, this]; rfl
            rw [f1, f2, decide_eq_false (show ¬ lo < 0 by omega), Int.mul_one, Int.mul_one]
            simp only [spsB, hs, decide_eq_true h0, Bool.true_and] at h
            cases a1 : byB n (lo / 1000000000) <;> cases a2 : byB n (hi / 1000000000) <;> rw [a1, a2] at h <;> cases h <;> rfl
          · rw [show spsB n lo hi true = false by simp [spsB, hs]; omega, if_neg (by decide)] at h; cases h
            rw [decide_eq_true (show lo < 0 by omega)]; rfl
    · simp [den_fail] at h
  · simp [den_fail] at h
abbrev rspsG : List (Nat × Rx.Spec) := [(50, spRS), (28, byS)]
theorem rspsG_ok : GammaOK P rspsG := .cons rspR_ok (.cons refBy_ok (.nil P))
theorem rsps_ok : SpecOK P 30 spsS := by
  refine specOK_fast rspsG_ok hm (Λ := loopsOf []) Tryd.func30 (by kernel_rfl) (LoopsOK.nil (by kernel_rfl)) ?_
  intro args bs r h
  unfold spsS at h
  split at h
  · split at h
    · rename_i v lo hi k _ n hn
      rw [Nte.of_eq hn]
      rw [denI, denLf, denLf] at h
      rw [show (fFn P (specsOf rspsG) (loopsOf []) Tryd.f30 [n.v, .agg [.int .i64 lo, .int .i64 hi, .bool k]] []).denN = Tree.denN (Tree.ite (!k) (Tree.leaf { v := V.tup [V.agg [V.int IntKind.i64 0, V.int IntKind.i64 0, V.int IntKind.i64 0, V.int IntKind.i64 0, V.int IntKind.i64 0, V.int IntKind.i64 0], V.agg [V.int IntKind.i64 0, V.int IntKind.i64 0, V.int IntKind.i64 0, V.int IntKind.i64 0, V.int IntKind.i64 0, V.int IntKind.i64 0], V.fls], upd := [], new := [] }) (Tree.ite (!spRB lo hi k) (Tree.leaf { v := V.tup [V.agg [V.int IntKind.i64 0, V.int IntKind.i64 0, V.int IntKind.i64 0, V.int IntKind.i64 0, V.int IntKind.i64 0, V.int IntKind.i64 0], V.agg [V.int IntKind.i64 0, V.int IntKind.i64 0, V.int IntKind.i64 0, V.int IntKind.i64 0, V.int IntKind.i64 0, V.int IntKind.i64 0], V.fls], upd := [], new := [] }) (Tree.ite (decide (lo < 0)) (Tree.leaf { v := V.tup [V.agg [V.int IntKind.i64 0, V.int IntKind.i64 0, V.int IntKind.i64 0, V.int IntKind.i64 0, V.int IntKind.i64 0, V.int IntKind.i64 0], V.agg [V.int IntKind.i64 0, V.int IntKind.i64 0, V.int IntKind.i64 0, V.int IntKind.i64 0, V.int IntKind.i64 0, V.int IntKind.i64 0], V.fls], upd := [], new := [] }) (Tree.ite (byB n (IntKind.i64.wrap (lo.tdiv 1000000000))) (Tree.ite (byB n (IntKind.i64.wrap (hi.tdiv 1000000000))) (Tree.leaf { v := V.tup [V.agg [V.int IntKind.i64 (byL n (IntKind.i64.wrap (lo.tdiv 1000000000))).1, V.int IntKind.i64 (byL n (IntKind.i64.wrap (lo.tdiv 1000000000))).2, V.int IntKind.i64 (byL n (IntKind.i64.wrap (lo.tdiv 1000000000))).3, V.int IntKind.i64 (byL n (IntKind.i64.wrap (lo.tdiv 1000000000))).4, V.int IntKind.i64 (byL n (IntKind.i64.wrap (lo.tdiv 1000000000))).5, V.int IntKind.i64 (byL n (IntKind.i64.wrap (lo.tdiv 1000000000))).6], V.agg [V.int IntKind.i64 (byL n (IntKind.i64.wrap (hi.tdiv 1000000000))).1, V.int IntKind.i64 (byL n (IntKind.i64.wrap (hi.tdiv 1000000000))).2, V.int IntKind.i64 (byL n (IntKind.i64.wrap (hi.tdiv 1000000000))).3, V.int IntKind.i64 (byL n (IntKind.i64.wrap (hi.tdiv 1000000000))).4, V.int IntKind.i64 (byL n (IntKind.i64.wrap (hi.tdiv 1000000000))).5, V.int IntKind.i64 (byL n (IntKind.i64.wrap (hi.tdiv 1000000000))).6], V.tru], upd := [], new := [] }) (Tree.leaf { v := V.tup [V.agg [V.int IntKind.i64 0, V.int IntKind.i64 0, V.int IntKind.i64 0, V.int IntKind.i64 0, V.int IntKind.i64 0, V.int IntKind.i64 0], V.agg [V.int IntKind.i64 0, V.int IntKind.i64 0, V.int IntKind.i64 0, V.int IntKind.i64 0, V.int IntKind.i64 0, V.int IntKind.i64 0], V.fls], upd := [], new := [] })) (Tree.ite (byB n (IntKind.i64.wrap (hi.tdiv 1000000000))) (Tree.leaf { v := V.tup [V.agg [V.int IntKind.i64 0, V.int IntKind.i64 0, V.int IntKind.i64 0, V.int IntKind.i64 0, V.int IntKind.i64 0, V.int IntKind.i64 0], V.agg [V.int IntKind.i64 0, V.int IntKind.i64 0, V.int IntKind.i64 0, V.int IntKind.i64 0, V.int IntKind.i64 0, V.int IntKind.i64 0], V.fls], upd := [], new := [] }) (Tree.leaf { v := V.tup [V.agg [V.int IntKind.i64 0, V.int IntKind.i64 0, V.int IntKind.i64 0, V.int IntKind.i64 0, V.int IntKind.i64 0, V.int IntKind.i64 0], V.agg [V.int IntKind.i64 0, V.int IntKind.i64 0, V.int IntKind.i64 0, V.int IntKind.i64 0, V.int IntKind.i64 0, V.int IntKind.i64 0], V.fls], upd := [], new := [] })))))) from by kernel_rfl]
      simp only [denN_ite, denN_leaf, denN_fail]
      cases k with
      | false =>
        rw [show spsB n lo hi false = false from rfl, if_neg (by decide)] at h; cases h; rfl
      | true =>
        have eR : spRB lo hi true = spB lo hi := by unfold spRB; simp
        rw [eR]
        cases hs : spB lo hi with
        | false => rw [show spsB n lo hi true = false by simp [spsB, hs], if_neg (by decide)] at h; cases h; rfl
        | true =>
          by_cases h0 : 0 ≤ lo
          · have hb : smB lo = true ∧ smB hi = true ∧ lo ≤ hi := by simpa [spB, and_assoc] using hs
            obtain ⟨b1, b2, b3⟩ := hb
            have b1' := smB_iff.1 b1
            have b2' := smB_iff.1 b2
            rw [decide_eq_false (show ¬ lo < 0 by omega), Int.tdiv_eq_ediv_of_nonneg (by omega), Int.tdiv_eq_ediv_of_nonneg (by omega), wrap64_id (n := lo / 1000000000) (by omega) (by omega), wrap64_id (n := hi / 1000000000) (by omega) (by omega)]
            simp only [spsB, hs, decide_eq_true h0, Bool.true_and] at h
            cases a1 : byB n (lo / 1000000000) <;> cases a2 : byB n (hi / 1000000000) <;> rw [a1, a2] at h <;> cases h <;> rfl
          · rw [show spsB n lo hi true = false by simp [spsB, hs]; omega, if_neg (by decide)] at h; cases h
            rw [decide_eq_true (show lo < 0 by omega)]; rfl
    · simp [den_fail] at h
  · simp [den_fail] at h
end Go.Proofs.YtbfiaogmfjadeaaDoor

set_option maxRecDepth 100000
set_option linter.unusedSimpArgs false
set_option linter.unusedVariables false
namespace Go.Proofs.YtbfiaogmfjadeaaDoor
open Go.Rx

theorem day_in {y m d : Int} (h : dayB y m d = true) : mdZ y m ≤ dayZ y m d - aheadZ y ∧ dayZ y m d - aheadZ y < mdZ y (m + 1) ∧ aheadZ y ≤ dayZ y m d ∧ dayZ y m d < aheadZ (y + 1) := by
  obtain ⟨d1, d2, d3, d4, d5, d6, d7, d8⟩ := day_mem h
  have hb := mdN_bd y (m - 1).toNat
  rw [show mdN y (m - 1).toNat = mdZ y m from rfl] at hb
  have hmm : mdZ y (m + 1) ≤ mdZ y 13 := by
    by_cases e : m = 12
    · rw [e]; exact Int.le_refl _
    · exact md_mono y d3 (by omega)
  rw [md_year] at hmm
  have hs := ahead_step y (by omega)
  have hk := mdZ_succ y m d3
  unfold dayZ at *
  omega
theorem day_lt_of {y m d y' m' d' : Int} (h : dayB y m d = true) (h' : dayB y' m' d' = true) (hl : y < y' ∨ (y = y' ∧ (m < m' ∨ (m = m' ∧ d < d')))) : dayZ y m d < dayZ y' m' d' := by
  obtain ⟨a1, a2, a3, a4⟩ := day_in h
  obtain ⟨b1, b2, b3, b4⟩ := day_in h'
  rcases hl with hl | ⟨rfl, hl | ⟨rfl, hl⟩⟩
  · have := ahead_mono hl; omega
  · have := md_mono y (day_mem h).2.2.1 hl; omega
  · unfold dayZ; omega
theorem day_lt_iff {y m d y' m' d' : Int} (h : dayB y m d = true) (h' : dayB y' m' d' = true) : (y < y' ∨ (y = y' ∧ (m < m' ∨ (m = m' ∧ d < d')))) ↔ dayZ y m d < dayZ y' m' d' := by
  refine ⟨day_lt_of h h', fun hl => ?_⟩
  by_cases h1 : y' < y ∨ (y' = y ∧ (m' < m ∨ (m' = m ∧ d' < d)))
  · have := day_lt_of h' h h1; omega
  · by_cases h2 : y = y' ∧ m = m' ∧ d = d'
    · obtain ⟨rfl, rfl, rfl⟩ := h2; omega
    · omega
theorem lessZ_iff (a b : Lab) : lessZ a b = true ↔ a.y < b.y ∨ (a.y = b.y ∧ (a.mo < b.mo ∨ (a.mo = b.mo ∧ (a.d < b.d ∨ (a.d = b.d ∧ (a.h < b.h ∨ (a.h = b.h ∧ (a.mi < b.mi ∨ (a.mi = b.mi ∧ a.s < b.s))))))))) := by
  unfold lessZ
  by_cases h1 : a.y = b.y
  · rw [if_neg (by simpa using h1)]
    by_cases h2 : a.mo = b.mo
    · rw [if_neg (by simpa using h2)]
      by_cases h3 : a.d = b.d
      · rw [if_neg (by simpa using h3)]
        by_cases h4 : a.h = b.h
        · rw [if_neg (by simpa using h4)]
          by_cases h5 : a.mi = b.mi
          · rw [if_neg (by simpa using h5), decide_eq_true_eq]; omega
          · rw [if_pos h5, decide_eq_true_eq]; omega
        · rw [if_pos h4, decide_eq_true_eq]; omega
      · rw [if_pos h3, decide_eq_true_eq]; omega
    · rw [if_pos h2, decide_eq_true_eq]; omega
  · rw [if_pos h1, decide_eq_true_eq]; omega
/-- A number's day, and the next one's. -/
theorem date_day {n : Int} (h : dateB n = true) : dayB (dYear n) (dMonth n) (dDay n) = true ∧ dayZ (dYear n) (dMonth n) (dDay n) = n := by
  simp only [dateB, Bool.and_eq_true, decide_eq_true_eq] at h
  obtain ⟨a1, a2, a3, a4, a5, a6, a7⟩ := date_spec h.1 h.2
  refine ⟨by simp [dayB]; omega, a7⟩
theorem day_inj {y m d y' m' d' : Int} (h : dayB y m d = true) (h' : dayB y' m' d' = true) (he : dayZ y m d = dayZ y' m' d') : y = y' ∧ m = m' ∧ d = d' := by
  have h1 := day_lt_iff h h'
  have h2 := day_lt_iff h' h
  omega
theorem date_next {n : Int} (h : dateB n = true) (h' : dateB (n + 1) = true) : lessZ ⟨dYear n, dMonth n, dDay n, 0, 0, 0⟩ ⟨dYear (n + 1), dMonth (n + 1), dDay (n + 1), 0, 0, 0⟩ = true ∧
    (dDay n < longZ (dYear n) (dMonth n) → dYear (n + 1) = dYear n ∧ dMonth (n + 1) = dMonth n ∧ dDay (n + 1) = dDay n + 1) := by
  obtain ⟨a, b⟩ := date_day h
  obtain ⟨c, d⟩ := date_day h'
  constructor
  · rw [lessZ_iff]
    have := (day_lt_iff a c).2 (by omega)
    simp only
    omega
  · intro hl
    have a' := day_mem a
    have e : dayB (dYear n) (dMonth n) (dDay n + 1) = true := by simp [dayB]; omega
    obtain ⟨e1, e2, e3⟩ := day_inj c e (by rw [d]; unfold dayZ at b ⊢; omega)
    exact ⟨e1, e2, e3⟩
theorem right_mk {l : Lab} (h : dayB l.y l.mo l.d = true) (g : 0 ≤ l.h ∧ l.h ≤ 23 ∧ 0 ≤ l.mi ∧ l.mi ≤ 59 ∧ 0 ≤ l.s ∧ l.s ≤ 59) : rightZ l = true := by
  obtain ⟨a, b, c, d, e, f⟩ := g
  simp only [rightZ, h, decide_eq_true a, decide_eq_true b, decide_eq_true c, decide_eq_true d, decide_eq_true e, decide_eq_true f, Bool.and_self, Bool.true_or]
theorem of_right {s : Int} (h : ofB s = true) : rightZ (ofL s) = true ∧ secZ (ofL s) = s ∧ s % 60 ≤ 59 := by
  simp only [ofB, Bool.and_eq_true, decide_eq_true_eq] at h
  obtain ⟨a, b⟩ := date_day (n := s / 86400) (by simp [dateB]; omega)
  refine ⟨?_, ?_, by omega⟩
  · exact right_mk a ⟨by simp only [ofL]; omega, by simp only [ofL]; omega, by simp only [ofL]; omega, by simp only [ofL]; omega, by simp only [ofL]; omega, by simp only [ofL]; omega⟩
  · simp only [secZ, ofL, b]; omega
theorem read_txt {l : Lab} (h : rightZ l = true) : readL (txt l) = l := by
  obtain ⟨g1, g2, g3, g4, g5, g6, g7, _⟩ := right_mem h
  obtain ⟨d1, d2, d3, d4, d5, d6, d7, d8⟩ := day_mem g1
  have hlg := longZ_bd l.y l.mo
  have e : readL (txt l) = ⟨numF 0 (dig4 l.y), numF 0 (dig2 l.mo), numF 0 (dig2 l.d), numF 0 (dig2 l.h), numF 0 (dig2 l.mi), numF 0 (dig2 l.s)⟩ := rfl
  have n2 (n : Int) (h0 : 0 ≤ n) (h1 : n ≤ 99) : numF 0 (dig2 n) = n := by simp only [numF, dig2, List.foldl_cons, List.foldl_nil]; omega
  have n4 (n : Int) (h0 : 0 ≤ n) (h1 : n ≤ 9999) : numF 0 (dig4 n) = n := by simp only [numF, dig4, List.foldl_cons, List.foldl_nil]; omega
  rw [e, n4 _ (by omega) (by omega), n2 _ (by omega) (by omega), n2 _ (by omega) (by omega), n2 _ (by omega) (by omega), n2 _ (by omega) (by omega), n2 _ (by omega) (by omega)]
theorem read_text (l : Lab) : readB (bytesOf (textZ l)) = rightZ l ∧ (rightZ l = true → readL (numsOf (bytesOf (textZ l))) = l) := by
  cases h : rightZ l with
  | false =>
    have e : textZ l = [] := by unfold textZ; rw [h]; rfl
    rw [e]
    exact ⟨rfl, fun h => by cases h⟩
  | true =>
    have e : textZ l = txt l := by unfold textZ; rw [h]; rfl
    have en : numsOf (bytesOf (txt l)) = txt l := nums_bytesOf (txt_bytes h)
    rw [e, en]
    refine ⟨?_, fun _ => read_txt h⟩
    unfold readB
    rw [en, read_txt h, e, sEq_refl, bytesOf_size]
    rfl

/-! ### Texts in order -/
def lessI : List Int → List Int → Bool
  | _, [] => false
  | [], _ :: _ => true
  | a :: x, b :: y => decide (a < b) || (a == b && lessI x y)
theorem less_bytes : ∀ (xs ys : List Int), (∀ n ∈ xs, 0 ≤ n ∧ n ≤ 255) → (∀ n ∈ ys, 0 ≤ n ∧ n ≤ 255) → Op.bytesLess (xs.map fun n => UInt8.ofNat n.toNat) (ys.map fun n => UInt8.ofNat n.toNat) = lessI xs ys
  | [], [], _, _ => rfl
  | _ :: _, [], _, _ => rfl
  | [], _ :: _, _, _ => rfl
  | a :: x, b :: y, hx, hy => by
    have ha := hx a (by simp)
    have hb := hy b (by simp)
    have ea : (UInt8.ofNat a.toNat).toNat = a.toNat := by
      have : (UInt8.ofNat a.toNat).toNat = a.toNat % 256 := rfl
      omega
    have eb : (UInt8.ofNat b.toNat).toNat = b.toNat := by
      have : (UInt8.ofNat b.toNat).toNat = b.toNat % 256 := rfl
      omega
    simp only [List.map_cons, Op.bytesLess, lessI, less_bytes x y (fun n hn => hx n (List.mem_cons_of_mem _ hn)) (fun n hn => hy n (List.mem_cons_of_mem _ hn))]
    have e1 : decide (UInt8.ofNat a.toNat < UInt8.ofNat b.toNat) = decide (a < b) := by
      rw [Bool.eq_iff_iff, decide_eq_true_eq, decide_eq_true_eq, UInt8.lt_iff_toNat_lt, ea, eb]; omega
    have e2 : (UInt8.ofNat a.toNat == UInt8.ofNat b.toNat) = (a == b) := by
      rw [Bool.eq_iff_iff, beq_iff_eq, beq_iff_eq, ← UInt8.toNat_inj, ea, eb]; omega
    rw [e1, e2]
theorem sLt_bytes {xs ys : List Int} (hx : ∀ n ∈ xs, 0 ≤ n ∧ n ≤ 255) (hy : ∀ n ∈ ys, 0 ≤ n ∧ n ≤ 255) : sLt (bytesOf xs) (bytesOf ys) = lessI xs ys := by
  unfold sLt
  rw [ByteArray.toList_eq, ByteArray.toList_eq]
  exact less_bytes xs ys hx hy
theorem lessI_app : ∀ (a b x y : List Int), a.length = b.length → lessI (a ++ x) (b ++ y) = (lessI a b || (decide (a = b) && lessI x y))
  | [], [], x, y, _ => by simp [lessI]
  | p :: a, q :: b, x, y, h => by
    simp only [List.cons_append, lessI, lessI_app a b x y (by simpa using h)]
    by_cases e : p = q
    · subst e; simp
    · have e' : (p == q) = false := by simpa using e
      simp [e, e']
theorem less_dig2 {a b : Int} (h0 : 0 ≤ a) (h1 : a ≤ 99) (h2 : 0 ≤ b) (h3 : b ≤ 99) : lessI (dig2 a) (dig2 b) = decide (a < b) ∧ decide (dig2 a = dig2 b) = decide (a = b) := by
  constructor
  · rw [Bool.eq_iff_iff]
    simp only [lessI, dig2, Bool.or_eq_true, Bool.and_eq_true, decide_eq_true_eq, beq_iff_eq, Bool.false_eq_true, and_false, or_false]
    omega
  · rw [Bool.eq_iff_iff]
    simp only [dig2, decide_eq_true_eq, List.cons.injEq, and_true]
    omega
theorem less_dig4 {a b : Int} (h0 : 0 ≤ a) (h1 : a ≤ 9999) (h2 : 0 ≤ b) (h3 : b ≤ 9999) : lessI (dig4 a) (dig4 b) = decide (a < b) ∧ decide (dig4 a = dig4 b) = decide (a = b) := by
  constructor
  · rw [Bool.eq_iff_iff]
    simp only [lessI, dig4, Bool.or_eq_true, Bool.and_eq_true, decide_eq_true_eq, beq_iff_eq, Bool.false_eq_true, and_false, or_false]
    omega
  · rw [Bool.eq_iff_iff]
    simp only [dig4, decide_eq_true_eq, List.cons.injEq, and_true]
    omega
theorem less_cons (c : Int) (x y : List Int) : lessI (c :: x) (c :: y) = lessI x y := by simp [lessI]
theorem text_less {a b : Lab} (ha : rightZ a = true) (hb : rightZ b = true) : sLt (bytesOf (textZ a)) (bytesOf (textZ b)) = lessZ a b := by
  have ea : textZ a = txt a := by unfold textZ; rw [ha]; rfl
  have eb : textZ b = txt b := by unfold textZ; rw [hb]; rfl
  rw [ea, eb, sLt_bytes (txt_bytes ha) (txt_bytes hb)]
  obtain ⟨g1, g2, g3, g4, g5, g6, g7, _⟩ := right_mem ha
  obtain ⟨d1, d2, d3, d4, d5, d6, d7, d8⟩ := day_mem g1
  have hlg := longZ_bd a.y a.mo
  obtain ⟨k1, k2, k3, k4, k5, k6, k7, _⟩ := right_mem hb
  obtain ⟨e1, e2, e3, e4, e5, e6, e7, e8⟩ := day_mem k1
  have hlk := longZ_bd b.y b.mo
  obtain ⟨u0, v0⟩ := less_dig4 (a := a.y) (b := b.y) (by omega) (by omega) (by omega) (by omega)
  obtain ⟨u1, v1⟩ := less_dig2 (a := a.mo) (b := b.mo) (by omega) (by omega) (by omega) (by omega)
  obtain ⟨u2, v2⟩ := less_dig2 (a := a.d) (b := b.d) (by omega) (by omega) (by omega) (by omega)
  obtain ⟨u3, v3⟩ := less_dig2 (a := a.h) (b := b.h) (by omega) (by omega) (by omega) (by omega)
  obtain ⟨u4, v4⟩ := less_dig2 (a := a.mi) (b := b.mi) (by omega) (by omega) (by omega) (by omega)
  obtain ⟨u5, v5⟩ := less_dig2 (a := a.s) (b := b.s) (by omega) (by omega) (by omega) (by omega)
  unfold txt
  simp only [List.append_assoc, List.cons_append]
  rw [lessI_app (dig4 a.y) (dig4 b.y) _ _ rfl, less_cons, lessI_app (dig2 a.mo) (dig2 b.mo) _ _ rfl, less_cons, lessI_app (dig2 a.d) (dig2 b.d) _ _ rfl, less_cons, lessI_app (dig2 a.h) (dig2 b.h) _ _ rfl, less_cons, lessI_app (dig2 a.mi) (dig2 b.mi) _ _ rfl, less_cons,
    u0, v0, u1, v1, u2, v2, u3, v3, u4, v4, u5]
  rw [Bool.eq_iff_iff, lessZ_iff]
  simp only [Bool.or_eq_true, Bool.and_eq_true, decide_eq_true_eq]
theorem less_secs {a b : Lab} (ha : rightZ a = true) (hb : rightZ b = true) : (lessZ a b = true → secZ a ≤ secZ b) ∧ (lessZ a b = false → secZ b ≤ secZ a) := by
  obtain ⟨g1, g2, g3, g4, g5, g6, g7, g8⟩ := right_mem ha
  obtain ⟨k1, k2, k3, k4, k5, k6, k7, k8⟩ := right_mem hb
  have h1 := day_lt_iff g1 k1
  have h2 := day_lt_iff k1 g1
  have h3 : (a.y = b.y ∧ a.mo = b.mo ∧ a.d = b.d) → dayZ a.y a.mo a.d = dayZ b.y b.mo b.d := by rintro ⟨e1, e2, e3⟩; rw [e1, e2, e3]
  have hl := lessZ_iff a b
  unfold secZ
  generalize dayZ a.y a.mo a.d = x at *
  generalize dayZ b.y b.mo b.d = z at *
  constructor
  · intro h
    have := hl.1 h
    by_cases hx : x < z
    · omega
    · have : a.y = b.y ∧ a.mo = b.mo ∧ a.d = b.d := by omega
      have := h3 this
      omega
  · intro h
    have hn : ¬ (lessZ a b = true) := by rw [h]; decide
    rw [hl] at hn
    by_cases hx : z < x
    · omega
    · have : a.y = b.y ∧ a.mo = b.mo ∧ a.d = b.d := by omega
      have := h3 this
      omega
end Go.Proofs.YtbfiaogmfjadeaaDoor

set_option maxRecDepth 100000
set_option linter.unusedSimpArgs false
set_option linter.unusedVariables false
namespace Go.Proofs.YtbfiaogmfjadeaaDoor
open Go.Rx

/-- No contract of a law: its entry alone says that nil slices are kept as they are. -/
theorem keep_ok : SpecOK P 3 (fun _ _ => .fail) := ⟨fun _ _ _ h => by simp [den_fail] at h, Tryd.f3, Tryd.func3, by kernel_rfl, by kernel_rfl⟩
abbrev kpE : Nat × Rx.Spec := (3, fun _ _ => .fail)
abbrev kpG : List (Nat × Rx.Spec) := [kpE]
theorem kpG_ok : GammaOK P kpG := .cons keep_ok (.nil P)
structure Lp where
  day : Int
  sign : Int
  deriving DecidableEq, Inhabited
def lpOf (r : List V) : Lp := ⟨(r.getD 0 .any).toInt, (r.getD 1 .any).toInt⟩
def lps (rs : List (List V)) : List Lp := rs.map lpOf
def lpRow (x : Lp) : List V := [.int .i64 x.day, .int .i64 x.sign]
def lpRows (l : List Lp) : List (List V) := l.map lpRow
theorem lps_rows (l : List Lp) : lps (lpRows l) = l := by
  simp only [lps, lpRows, List.map_map]
  conv => rhs; rw [← List.map_id l]
  exact List.map_congr_left fun x _ => rfl
abbrev lpK : List K := [.int .i64, .int .i64]
theorem lps_get (rs : List (List V)) (i : Nat) : (lps rs).getD i ⟨0, 0⟩ = lpOf (rs.getD i []) := by
  rw [List.getD_eq_getElem?_getD, List.getD_eq_getElem?_getD, lps, List.getElem?_map]
  cases rs[i]? <;> rfl

def lead (t : Int) : List Int → Nat
  | [] => 0
  | x :: xs => if x ≤ t then lead t xs + 1 else 0
def hapS : Rx.Spec := fun a b => match a, b with
  | [.int .i64 n, .ptr 0 0 0 0], [.cells [.int .i64 t]] => .leaf ⟨.bool (decide (n ≤ t)), [none], []⟩
  | _, _ => .fail
theorem hap_ok : SpecOK P 54 hapS := by
  refine specOK_fast (GammaOK.nil P) hm (Λ := loopsOf []) Tryd.func54 (by kernel_rfl) (LoopsOK.nil (by kernel_rfl)) ?_
  intro args bs r h
  unfold hapS at h
  split at h
  · rename_i n t
    rw [denLf] at h
    cases h
    rw [show (fFn P (specsOf []) (loopsOf []) Tryd.f54 [.int .i64 n, .ptr 0 0 0 0] [.cells [.int .i64 t]]).denN = Tree.denN (Tree.leaf { v := V.bool (decide (n ≤ t)), upd := [none], new := [] }) from by kernel_rfl]
    rfl
  · simp [den_fail] at h
abbrev hapG : List (Nat × Rx.Spec) := [(54, hapS)]
theorem hapG_ok : GammaOK P hapG := .cons hap_ok (.nil P)
def cn1S : Rx.Spec := fun a b => match a, b with
  | [.int .i64 n, .ptr 0 0 0 0], [.cells [.fn (.func 54) [] [.ptr 1 0 0 0]], .cells [.int .i64 t]] => .leaf ⟨.bool (!decide (n ≤ t)), [none, none], []⟩
  | _, _ => .fail
theorem cn1_ok : SpecOK P 66 cn1S := by
  refine specOK_fast hapG_ok hm (Λ := loopsOf []) Tryd.func66 (by kernel_rfl) (LoopsOK.nil (by kernel_rfl)) ?_
  intro args bs r h
  unfold cn1S at h
  split at h
  · rename_i n t
    rw [denLf] at h
    cases h
    rw [show (fFn P (specsOf hapG) (loopsOf []) Tryd.f66 [.int .i64 n, .ptr 0 0 0 0] [.cells [.fn (.func 54) [] [.ptr 1 0 0 0]], .cells [.int .i64 t]]).denN = Tree.denN (Tree.leaf { v := V.bool !decide (n ≤ t), upd := [none, none], new := [] }) from by kernel_rfl]
    rfl
  · simp [den_fail] at h
abbrev cnG : List (Nat × Rx.Spec) := [kpE, (66, cn1S)]
theorem cnG_ok : GammaOK P cnG := .cons keep_ok (.cons cn1_ok (.nil P))
abbrev clo : V := .fn (.func 66) [] [.ptr 1 0 0 0]
abbrev cloB (t : Int) : List Blk := [.cells [.fn (.func 54) [] [.ptr 2 0 0 0]], .cells [.int .i64 t]]
theorem lead_le (t : Int) : ∀ xs : List Int, lead t xs ≤ xs.length
  | [] => Nat.le_refl _
  | x :: xs => by
    have := lead_le t xs
    simp only [lead, List.length_cons]; split <;> omega
theorem lead_at (t : Int) : ∀ (xs : List Int) (i : Nat), i ≤ lead t xs → i < xs.length → (xs.getD i 0 ≤ t ↔ i < lead t xs)
  | [], i, _, h => by simp at h
  | x :: xs, 0, _, _ => by
    simp only [lead, List.getD_cons_zero]; split <;> simp <;> omega
  | x :: xs, i + 1, h, h2 => by
    simp only [lead] at h ⊢
    rw [List.getD_cons_succ]
    split
    · rename_i hx
      rw [if_pos hx] at h
      rw [lead_at t xs i (by omega) (by simpa using h2)]; omega
    · rename_i hx
      rw [if_neg hx] at h; omega
/-- Where the first one is behind. -/
def ixZ (t : Int) (xs : List Int) : Int := if lead t xs = xs.length then -1 else (lead t xs : Int)
theorem ix_round (n : Nat) (c : Option Nat) (N i t : Int) (xs : List Int) : (evRound P (specsOf cnG) (loopsOf []) 19 [0, 1, 7, 8] [4] (loopAt Tryd.f65 0) [.sl 0 0 0 1 n c, clo, .int .i64 N, .int .i64 i] (.ints .i64 xs :: cloB t)).den = Tree.den (Tree.ite (decide (i < N)) (Tree.ite (decide (0 ≤ i) && decide (i < (↑n : Int))) (Tree.ite (decide (0 + i.toNat + 1 ≤ xs.length)) (Tree.ite (!decide (xs.getD (0 + i.toNat + 0) 0 ≤ t)) (Tree.leaf { e := Ex.ret, vs := [V.int IntKind.i64 i], upd := [none, none, none], new := [] }) (Tree.leaf { e := Ex.nrm, vs := [V.sl 0 0 0 1 n c, V.fn (Fn.func 66) [] [V.ptr 1 0 0 0], V.int IntKind.i64 N, V.int IntKind.i64 (IntKind.i64.wrap (i + 1))], upd := [none, none, none], new := [] })) Tree.fail) Tree.fail) (Tree.leaf { e := Ex.exit 0, vs := [V.any], upd := [none, none, none], new := [] })) := by
  kernel_rfl
theorem ixN_round (N i t : Int) : (evRound P (specsOf cnG) (loopsOf []) 19 [0, 1, 7, 8] [4] (loopAt Tryd.f65 0) [.nils, .fn (.func 66) [] [.ptr 0 0 0 0], .int .i64 N, .int .i64 i] [.cells [.fn (.func 54) [] [.ptr 1 0 0 0]], .cells [.int .i64 t]]).den = Tree.den (Tree.ite (decide (i < N)) Tree.fail (Tree.leaf { e := Ex.exit 0, vs := [V.any], upd := [none, none], new := [] })) := by
  kernel_rfl
def ixF (vals : List V) (bs : List Blk) : Tree LRes := match vals, bs with
  | [.sl 0 0 0 1 n c, .fn (.func 66) [] [.ptr 1 0 0 0], .int .i64 N, .int .i64 i], [.ints .i64 xs, .cells [.fn (.func 54) [] [.ptr 2 0 0 0]], .cells [.int .i64 t]] =>
    .need (decide (n = xs.length) && decide (N = n) && decide (n ≤ 1000000) && decide (i = 0)) (.ite (decide (lead t xs = xs.length)) (.leaf ⟨.exit 0, [.any], [none, none, none], []⟩) (.leaf ⟨.ret, [.int .i64 (lead t xs)], [none, none, none], []⟩))
  | [.nils, .fn (.func 66) [] [.ptr 0 0 0 0], .int .i64 N, .int .i64 i], [.cells [.fn (.func 54) [] [.ptr 1 0 0 0]], .cells [.int .i64 t]] =>
    .need (decide (N = 0) && decide (i = 0)) (.leaf ⟨.exit 0, [.any], [none, none], []⟩)
  | _, _ => .fail
def ixL : LSpec := ⟨19, [0, 1, 7, 8], [4], ixF⟩
theorem ix_rounds (c : Option Nat) (t : Int) (xs : List Int) (hn : xs.length ≤ 1000000) : ∀ (j i : Nat), i ≤ lead t xs → i + j = lead t xs →
    (loopN P (specsOf cnG) (loopsOf []) 19 [0, 1, 7, 8] [4] (loopAt Tryd.f65 0) (j + 1) [.sl 0 0 0 1 xs.length c, clo, .int .i64 (xs.length : Int), .int .i64 (i : Int)] (.ints .i64 xs :: cloB t)).den =
    some (if lead t xs = xs.length then ⟨.exit 0, [.any], [none, none, none], []⟩ else ⟨.ret, [.int .i64 (lead t xs)], [none, none, none], []⟩) := by
  have hl := lead_le t xs
  intro j
  induction j with
  | zero =>
    intro i hi hj
    have hr := ix_round xs.length c (xs.length : Int) (i : Int) t xs
    have ei : i = lead t xs := by omega
    by_cases he : lead t xs = xs.length
    · rw [if_pos he]
      rw [decide_eq_false (show ¬ (i : Int) < (xs.length : Int) by omega)] at hr
      exact loopN_end hr (by simp)
    · rw [if_neg he]
      have h1 := lead_at t xs i (by omega) (by omega)
      rw [decide_eq_true (show (i : Int) < (xs.length : Int) by omega), decide_eq_true (show (0 : Int) ≤ i by omega), show 0 + (i : Int).toNat + 1 = i + 1 by omega, show 0 + (i : Int).toNat + 0 = i by omega,
        decide_eq_true (show i + 1 ≤ xs.length by omega), decide_eq_false (show ¬ xs.getD i 0 ≤ t by omega)] at hr
      rw [← ei]
      exact loopN_end hr (by simp)
  | succ j ih =>
    intro i hi hj
    have hr := ix_round xs.length c (xs.length : Int) (i : Int) t xs
    have h1 := lead_at t xs i (by omega) (by omega)
    rw [decide_eq_true (show (i : Int) < (xs.length : Int) by omega), decide_eq_true (show (0 : Int) ≤ i by omega), show 0 + (i : Int).toNat + 1 = i + 1 by omega, show 0 + (i : Int).toNat + 0 = i by omega,
      decide_eq_true (show i + 1 ≤ xs.length by omega), decide_eq_true (show xs.getD i 0 ≤ t by omega), wrap64_id (n := (i : Int) + 1) (by omega) (by omega)] at hr
    have ih' := ih (i + 1) (by omega) (by omega)
    rw [show ((i + 1 : Nat) : Int) = (i : Int) + 1 by omega] at ih'
    refine loopN_step hr rfl (vals' := [.sl 0 0 0 1 xs.length c, clo, .int .i64 (xs.length : Int), .int .i64 ((i : Int) + 1)]) (bs' := .ints .i64 xs :: cloB t) (by kernel_rfl) (by kernel_rfl) (by kernel_rfl) ih' ?_
    split <;> kernel_rfl
theorem ix_loop : LoopOK P (loopAt Tryd.f65 0) ixL := by
  refine loop_ok cnG_ok Go.Proofs.YtbfiaogmfjadeaaDoor.hm (Λ := loopsOf []) (LoopsOK.nil (by kernel_rfl)) _ ?_
  intro vals bs r h
  simp only [ixL, ixF] at h
  split at h
  · rename_i n c N i xs t
    rw [den_need] at h
    simp only [Bool.and_eq_true, decide_eq_true_eq] at h
    obtain ⟨⟨⟨⟨rfl, rfl⟩, h3⟩, rfl⟩, h⟩ := h
    have := ix_rounds c t xs h3 (lead t xs) 0 (by omega) (by omega)
    refine ⟨lead t xs + 1, ?_⟩
    refine this.trans ?_
    rw [denI, denLf, denLf] at h
    by_cases he : lead t xs = xs.length
    · rw [if_pos he]; rw [if_pos (by simpa using he)] at h; exact h
    · rw [if_neg he]; rw [if_neg (by simpa using he)] at h; exact h
  · rename_i N i t
    rw [den_need, denLf] at h
    simp only [Bool.and_eq_true, decide_eq_true_eq] at h
    obtain ⟨⟨rfl, rfl⟩, h⟩ := h
    cases h
    exact ⟨1, loopN_end (ixN_round 0 0 t) (by simp)⟩
  · simp [den_fail] at h
def ixS : Rx.Spec := fun a b => match a, b with
  | [.sl 0 0 0 1 n c, .fn (.func 66) [] [.ptr 1 0 0 0]], [.ints .i64 xs, .cells [.fn (.func 54) [] [.ptr 2 0 0 0]], .cells [.int .i64 t]] =>
    .need (decide (n = xs.length) && decide (n ≤ 1000000)) (.leaf ⟨.int .i64 (ixZ t xs), [none, none, none], []⟩)
  | [.nils, .fn (.func 66) [] [.ptr 0 0 0 0]], [.cells [.fn (.func 54) [] [.ptr 1 0 0 0]], .cells [.int .i64 t]] =>
    .leaf ⟨.int .i64 (-1), [none, none], []⟩
  | _, _ => .fail
theorem ixI_ok : SpecOK P 65 ixS := by
  refine specOK_fast cnG_ok hm (Λ := loopsOf [(2, ixL)]) Tryd.func65 (by kernel_rfl) (LoopsOK.one (by kernel_rfl) ix_loop) ?_
  intro args bs r h
  unfold ixS at h
  split at h
  · rename_i n c xs t
    rw [den_need, denLf] at h
    simp only [Bool.and_eq_true, decide_eq_true_eq] at h
    obtain ⟨⟨h1, h2⟩, h⟩ := h
    rw [show (fFn P (specsOf cnG) (loopsOf [(2, ixL)]) Tryd.f65 [.sl 0 0 0 1 n c, clo] (.ints .i64 xs :: cloB t)).denN = Tree.denN (Tree.ite (decide (n = xs.length) && decide ((↑n : Int) = (↑n : Int)) && decide (n ≤ 1000000) && true) (Tree.ite (decide (lead t xs = xs.length)) (Tree.leaf { v := V.int IntKind.i64 (-1), upd := [none, none, none], new := [] }) (Tree.leaf { v := V.int IntKind.i64 (↑(lead t xs) : Int), upd := [none, none, none], new := [] })) Tree.fail) from by kernel_rfl]
    simp only [denN_ite, denN_leaf, denN_fail]
    cases h
    unfold ixZ
    simp only [decide_eq_true h1, decide_eq_true h2, Bool.true_and]
    by_cases he : lead t xs = xs.length
    · rw [if_pos he, decide_eq_true he]; rfl
    · rw [if_neg he, decide_eq_false he]; rfl
  · rename_i t
    rw [denLf] at h
    cases h
    rw [show (fFn P (specsOf cnG) (loopsOf [(2, ixL)]) Tryd.f65 [.nils, .fn (.func 66) [] [.ptr 0 0 0 0]] [.cells [.fn (.func 54) [] [.ptr 1 0 0 0]], .cells [.int .i64 t]]).denN = Tree.denN (Tree.leaf { v := V.int IntKind.i64 (-1), upd := [none, none], new := [] }) from by kernel_rfl]
    rfl
  · simp [den_fail] at h
abbrev ctG : List (Nat × Rx.Spec) := [kpE, (65, ixS)]
theorem ctG_ok : GammaOK P ctG := .cons keep_ok (.cons ixI_ok (.nil P))
def cntS : Rx.Spec := fun a b => match a, b with
  | [.sl 0 0 0 1 n c, .fn (.func 54) [] [.ptr 1 0 0 0]], [.ints .i64 xs, .cells [.int .i64 t]] =>
    .need (decide (n = xs.length) && decide (n ≤ 1000000)) (.leaf ⟨.int .i64 (lead t xs), [none, none], []⟩)
  | [.nils, .fn (.func 54) [] [.ptr 0 0 0 0]], [.cells [.int .i64 t]] =>
    .leaf ⟨.int .i64 0, [none], []⟩
  | _, _ => .fail
theorem cnt_ok : SpecOK P 53 cntS := by
  refine specOK_fast ctG_ok hm (Λ := loopsOf []) Tryd.func53 (by kernel_rfl) (LoopsOK.nil (by kernel_rfl)) ?_
  intro args bs r h
  unfold cntS at h
  split at h
  · rename_i n c xs t
    rw [den_need, denLf] at h
    simp only [Bool.and_eq_true, decide_eq_true_eq] at h
    obtain ⟨⟨h1, h2⟩, h⟩ := h
    rw [show (fFn P (specsOf ctG) (loopsOf []) Tryd.f53 [.sl 0 0 0 1 n c, .fn (.func 54) [] [.ptr 1 0 0 0]] [.ints .i64 xs, .cells [.int .i64 t]]).denN = Tree.denN (Tree.ite (decide (n = xs.length) && decide (n ≤ 1000000)) (Tree.ite (decide (ixZ t xs < 0)) (Tree.leaf { v := V.int IntKind.i64 (↑n : Int), upd := [none, none], new := [] }) (Tree.leaf { v := V.int IntKind.i64 (ixZ t xs), upd := [none, none], new := [] })) Tree.fail) from by kernel_rfl]
    simp only [denN_ite, denN_leaf, denN_fail]
    cases h
    simp only [decide_eq_true h1, decide_eq_true h2, Bool.true_and]
    have hl := lead_le t xs
    unfold ixZ
    by_cases he : lead t xs = xs.length
    · rw [if_pos he, he, ← h1]; rfl
    · rw [if_neg he, decide_eq_false (show ¬ ((lead t xs : Int) < 0) by omega)]; rfl
  · rename_i t
    rw [denLf] at h
    cases h
    rw [show (fFn P (specsOf ctG) (loopsOf []) Tryd.f53 [.nils, .fn (.func 54) [] [.ptr 0 0 0 0]] [.cells [.int .i64 t]]).denN = Tree.denN (Tree.leaf { v := V.int IntKind.i64 0, upd := [none], new := [] }) from by kernel_rfl]
    rfl
  · simp [den_fail] at h
def endS : Rx.Spec := fun a b => match a, b with
  | [.agg [.int .i64 d, .int .i64 s]], [] => .leaf ⟨.int .i64 (IntKind.i64.wrap (IntKind.i64.wrap (d + 1) * 86400)), [], []⟩
  | _, _ => .fail
theorem end_ok : SpecOK P 41 endS := by
  refine specOK_fast (GammaOK.nil P) hm (Λ := loopsOf []) Tryd.func41 (by kernel_rfl) (LoopsOK.nil (by kernel_rfl)) ?_
  intro args bs r h
  unfold endS at h
  split at h
  · rename_i d s
    rw [denLf] at h
    cases h
    rw [show (fFn P (specsOf []) (loopsOf []) Tryd.f41 [.agg [.int .i64 d, .int .i64 s]] []).denN = Tree.denN (Tree.leaf { v := V.int IntKind.i64 (IntKind.i64.wrap (IntKind.i64.wrap (d + 1) * 86400)), upd := [], new := [] }) from by kernel_rfl]
    rfl
  · simp [den_fail] at h
def inDay (x : Lp) : Bool := decide (x.day ≥ 1) && decide (x.day ≤ 2932895) && (x.sign == 1 || x.sign == -1)
def rtB (ls : List Lp) (k : Nat) : Bool := inDay (ls.getD k ⟨0, 0⟩) && (k == 0 || decide ((ls.getD k ⟨0, 0⟩).day ≥ IntKind.i64.wrap ((ls.getD (k - 1) ⟨0, 0⟩).day + 2)))
def rtS : Rx.Spec := fun a b => match a, b with
  | [.sl 0 0 0 2 n cp, .int .i64 k], [.rows [.int .i64, .int .i64] rs] => .need (decide (n = rs.length) && decide (0 ≤ k) && decide (k < n) && decide (n ≤ 1000000)) (.leaf ⟨.bool (rtB (lps rs) k.toNat), [none], []⟩)
  | _, _ => .fail
theorem rt_ok : SpecOK P 40 rtS := by
  refine specOK_fast (GammaOK.nil P) hm (Λ := loopsOf []) Tryd.func40 (by kernel_rfl) (LoopsOK.nil (by kernel_rfl)) ?_
  intro args bs r h
  unfold rtS at h
  split at h
  · rename_i n cp k rs
    rw [den_need, denLf] at h
    simp only [Bool.and_eq_true, decide_eq_true_eq] at h
    obtain ⟨⟨⟨⟨h1, h2⟩, h3⟩, h4⟩, h⟩ := h
    cases h
    rw [show (fFn P (specsOf []) (loopsOf []) Tryd.f40 [.sl 0 0 0 2 n cp, .int .i64 k] [.rows lpK rs]).denN = Tree.denN (Tree.ite (decide (0 ≤ k) && decide (k < (↑n : Int))) (Tree.ite (decide (0 + k.toNat < rs.length)) (Tree.ite (decide ((V.toInt ((rs.getD (0 + k.toNat) []).getD 0 V.any)) ≥ 1)) (Tree.ite (decide ((V.toInt ((rs.getD (0 + k.toNat) []).getD 0 V.any)) ≤ 2932895)) (Tree.ite ((V.toInt ((rs.getD (0 + k.toNat) []).getD 1 V.any)) == 1) (Tree.ite (k == 0) (Tree.leaf { v := V.tru, upd := [none], new := [] }) (Tree.ite (decide (0 ≤ IntKind.i64.wrap (k - 1)) && decide (IntKind.i64.wrap (k - 1) < (↑n : Int))) (Tree.ite (decide (0 + (IntKind.i64.wrap (k - 1)).toNat < rs.length)) (Tree.leaf { v := V.bool (decide ((V.toInt ((rs.getD (0 + k.toNat) []).getD 0 V.any)) ≥ IntKind.i64.wrap ((V.toInt ((rs.getD (0 + (IntKind.i64.wrap (k - 1)).toNat) []).getD 0 V.any)) + 2))), upd := [none], new := [] }) Tree.fail) Tree.fail)) (Tree.ite ((V.toInt ((rs.getD (0 + k.toNat) []).getD 1 V.any)) == -1) (Tree.ite (k == 0) (Tree.leaf { v := V.tru, upd := [none], new := [] }) (Tree.ite (decide (0 ≤ IntKind.i64.wrap (k - 1)) && decide (IntKind.i64.wrap (k - 1) < (↑n : Int))) (Tree.ite (decide (0 + (IntKind.i64.wrap (k - 1)).toNat < rs.length)) (Tree.leaf { v := V.bool (decide ((V.toInt ((rs.getD (0 + k.toNat) []).getD 0 V.any)) ≥ IntKind.i64.wrap ((V.toInt ((rs.getD (0 + (IntKind.i64.wrap (k - 1)).toNat) []).getD 0 V.any)) + 2))), upd := [none], new := [] }) Tree.fail) Tree.fail)) (Tree.leaf { v := V.fls, upd := [none], new := [] }))) (Tree.leaf { v := V.fls, upd := [none], new := [] })) (Tree.leaf { v := V.fls, upd := [none], new := [] })) Tree.fail) Tree.fail) from by kernel_rfl]
    simp only [denN_ite, denN_leaf, denN_fail]
    simp only [rtB, inDay, lps_get, lpOf, Nat.zero_add]
    generalize hd : V.toInt ((rs.getD k.toNat []).getD 0 V.any) = d
    generalize hs : V.toInt ((rs.getD k.toNat []).getD 1 V.any) = s
    by_cases hk : k = 0
    · subst hk
      simp only [decide_eq_true h3, decide_eq_true (show (0 : Int).toNat < rs.length by omega)]
      generalize decide (d ≥ 1) = x1
      generalize decide (d ≤ 2932895) = x2
      generalize (s == 1) = x3
      generalize (s == -1) = x4
      cases x1 <;> cases x2 <;> cases x3 <;> cases x4 <;> rfl
    · have w : IntKind.i64.wrap (k - 1) = k - 1 := wrap64_id (by omega) (by omega)
      have e1 : (k == 0) = false := by simpa using hk
      have e2 : (k.toNat == 0) = false := by simp; omega
      simp only [w, e1, e2, decide_eq_true h3, decide_eq_true h2, decide_eq_true (show k.toNat < rs.length by omega), decide_eq_true (show 0 ≤ k - 1 by omega), decide_eq_true (show k - 1 < (n : Int) by omega), decide_eq_true (show k.toNat - 1 < rs.length by omega), show (k - 1).toNat = k.toNat - 1 by omega]
      generalize decide (d ≥ IntKind.i64.wrap (V.toInt ((rs.getD (k.toNat - 1) []).getD 0 V.any) + 2)) = x5
      generalize decide (d ≥ 1) = x1
      generalize decide (d ≤ 2932895) = x2
      generalize (s == 1) = x3
      generalize (s == -1) = x4
      cases x1 <;> cases x2 <;> cases x3 <;> cases x4 <;> cases x5 <;> rfl
  · simp [den_fail] at h
def cloneS : Rx.Spec := fun a b => match a, b with
  | [.nils], [] => .leaf ⟨.nils, [], []⟩
  | [.sl 0 0 0 2 n cp], [.rows [.int .i64, .int .i64] rs] => .need (decide (n = rs.length) && decide (1 ≤ n) && decide (n ≤ 1000000)) (.leaf ⟨.sl 1 0 0 2 n none, [none], [.rows [.int .i64, .int .i64] rs]⟩)
  | _, _ => .fail
theorem clone_ok : SpecOK P 39 cloneS := by
  refine specOK_fast kpG_ok hm (Λ := loopsOf []) Tryd.func39 (by kernel_rfl) (LoopsOK.nil (by kernel_rfl)) ?_
  intro args bs r h
  unfold cloneS at h
  split at h
  · rw [denLf] at h
    cases h
    rw [show (fFn P (specsOf kpG) (loopsOf []) Tryd.f39 [.nils] []).denN = Tree.denN (Tree.leaf { v := V.nils, upd := [], new := [] }) from by kernel_rfl]
    rfl
  · rename_i n cp rs
    rw [den_need, denLf] at h
    simp only [Bool.and_eq_true, decide_eq_true_eq] at h
    obtain ⟨⟨⟨h1, h2⟩, h3⟩, h⟩ := h
    cases h
    rw [show (fFn P (specsOf kpG) (loopsOf []) Tryd.f39 [.sl 0 0 0 2 n cp] [.rows lpK rs]).denN = Tree.denN (Tree.ite (decide (1 ≤ n)) (Tree.ite (true && decide (0 + n ≤ rs.length)) (Tree.ite (decide (([] ++ List.take n (List.drop 0 rs)).length * 16 ≤ 140737488355328)) (Tree.leaf { v := V.sl 1 0 0 2 ([] ++ List.take n (List.drop 0 rs)).length none, upd := [none], new := [Body.rows [K.int IntKind.i64, K.int IntKind.i64] ([] ++ List.take n (List.drop 0 rs))] }) Tree.fail) Tree.fail) Tree.fail) from by kernel_rfl]
    simp only [denN_ite, denN_leaf, denN_fail]
    subst h1
    simp only [List.nil_append, List.drop_zero, List.take_length, Nat.zero_add, decide_eq_true h2, decide_eq_true (Nat.le_refl rs.length), decide_eq_true (show rs.length * 16 ≤ 140737488355328 by omega)]
    rfl
  · simp [den_fail] at h
end Go.Proofs.YtbfiaogmfjadeaaDoor

set_option maxRecDepth 100000
set_option linter.unusedSimpArgs false
set_option linter.unusedVariables false
namespace Go.Proofs.YtbfiaogmfjadeaaDoor
open Go.Rx

/-! ### What a table is made of -/
def okL (p : Option Int) (x : Lp) : Bool := inDay x && (match p with | none => true | some d => decide (x.day ≥ d + 2))
/-- How many of the first ones are right. -/
def pre : Option Int → List Lp → Nat
  | _, [] => 0
  | p, x :: xs => if okL p x = true then pre (some x.day) xs + 1 else 0
def offsF (f : Int) : List Lp → List Int
  | [] => []
  | x :: xs => (f + x.sign) :: offsF (f + x.sign) xs
def startZ (f : Int) (x : Lp) : Int := (x.day + 1) * 86400 + f - (if x.sign < 0 then 1 else 0)
def stF (f : Int) : List Lp → List Int
  | [] => []
  | x :: xs => startZ f x :: stF (f + x.sign) xs
theorem pre_le : ∀ (p : Option Int) (l : List Lp), pre p l ≤ l.length
  | _, [] => Nat.le_refl _
  | p, x :: xs => by
    have := pre_le (some x.day) xs
    simp only [pre, List.length_cons]; split <;> omega
theorem offs_len : ∀ (f : Int) (l : List Lp), (offsF f l).length = l.length
  | _, [] => rfl
  | f, x :: xs => by simp [offsF, offs_len (f + x.sign) xs]
theorem st_len : ∀ (f : Int) (l : List Lp), (stF f l).length = l.length
  | _, [] => rfl
  | f, x :: xs => by simp [stF, st_len (f + x.sign) xs]
theorem inDay_iff {x : Lp} : inDay x = true ↔ 1 ≤ x.day ∧ x.day ≤ 2932895 ∧ (x.sign = 1 ∨ x.sign = -1) := by
  simp [inDay, and_assoc]
def prevOf (ls : List Lp) (k : Nat) : Option Int := match k with | 0 => none | k + 1 => some (ls.getD k ⟨0, 0⟩).day
theorem rt_okL {ls : List Lp} {k : Nat} (hp : ∀ d, prevOf ls k = some d → 1 ≤ d ∧ d ≤ 2932895) : rtB ls k = okL (prevOf ls k) (ls.getD k ⟨0, 0⟩) := by
  unfold rtB okL
  cases k with
  | zero => rfl
  | succ k =>
    have := hp _ rfl
    simp only [prevOf, Nat.add_sub_cancel]
    rw [wrap64_id (by omega) (by omega)]
    rfl

abbrev nwG : List (Nat × Rx.Spec) := [kpE, (40, rtS), (41, endS)]
theorem nwG_ok : GammaOK P nwG := .cons keep_ok (.cons rt_ok (.cons end_ok (.nil P)))
theorem nw1_round (n m : Nat) (cp : Option Nat) (f N k o : Int) (rs qs : List (List V)) : (evRound P (specsOf nwG) (loopsOf []) 73 [0, 1, 6, 27, 28, 29] [4, 5] (loopAt Tryd.f21 0) [.int .i64 f, .sl 0 0 0 2 n cp, .ptr 1 0 0 0, .sl 0 0 0 2 n cp, .int .i64 N, .int .i64 k] [.rows lpK rs, .cells [.sl 2 0 0 2 m none, .sl 3 0 0 1 1 (some 1), .nils], .rows lpK qs, .ints .i64 [o]]).den = Tree.den (Tree.ite (decide (k < N)) (Tree.ite (decide (0 ≤ k) && decide (k < (↑n : Int))) (Tree.ite (decide (0 + k.toNat < rs.length)) (Tree.ite (decide (n = rs.length) && decide (0 ≤ k) && decide (k < (↑n : Int)) && decide (n ≤ 1000000)) (Tree.ite (!rtB (lps rs) k.toNat) (Tree.leaf { e := Ex.ret, vs := [V.nilp, V.int IntKind.i64 160], upd := [none, none, none, none], new := [] }) (Tree.ite (decide ((V.toInt ((rs.getD (0 + k.toNat) []).getD 1 V.any)) < 0)) (Tree.leaf { e := Ex.nrm, vs := [V.int IntKind.i64 (IntKind.i64.wrap (f + (V.toInt ((rs.getD (0 + k.toNat) []).getD 1 V.any)))), V.sl 0 0 0 2 n cp, V.ptr 1 0 0 0, V.sl 0 0 0 2 n cp, V.int IntKind.i64 N, V.int IntKind.i64 (IntKind.i64.wrap (k + 1))], upd := [none, some (some (Body.cells [V.sl 2 0 0 2 m none, V.sl 4 0 0 1 2 none, V.sl 5 0 0 1 1 none])), none, none], new := [Body.ints IntKind.i64 (List.take 1 (List.drop 0 [o]) ++ List.take 1 (List.drop 0 [IntKind.i64.wrap (f + (V.toInt ((rs.getD (0 + k.toNat) []).getD 1 V.any)))])), Body.ints IntKind.i64 ([] ++ List.take 1 (List.drop 0 [IntKind.i64.wrap (IntKind.i64.wrap (IntKind.i64.wrap (IntKind.i64.wrap ((V.toInt ((rs.getD (0 + k.toNat) []).getD 0 V.any)) + 1) * 86400) + f) - 1)]))] }) (Tree.leaf { e := Ex.nrm, vs := [V.int IntKind.i64 (IntKind.i64.wrap (f + (V.toInt ((rs.getD (0 + k.toNat) []).getD 1 V.any)))), V.sl 0 0 0 2 n cp, V.ptr 1 0 0 0, V.sl 0 0 0 2 n cp, V.int IntKind.i64 N, V.int IntKind.i64 (IntKind.i64.wrap (k + 1))], upd := [none, some (some (Body.cells [V.sl 2 0 0 2 m none, V.sl 4 0 0 1 2 none, V.sl 5 0 0 1 1 none])), none, none], new := [Body.ints IntKind.i64 (List.take 1 (List.drop 0 [o]) ++ List.take 1 (List.drop 0 [IntKind.i64.wrap (f + (V.toInt ((rs.getD (0 + k.toNat) []).getD 1 V.any)))])), Body.ints IntKind.i64 ([] ++ List.take 1 (List.drop 0 [IntKind.i64.wrap (IntKind.i64.wrap (IntKind.i64.wrap ((V.toInt ((rs.getD (0 + k.toNat) []).getD 0 V.any)) + 1) * 86400) + f)]))] }))) Tree.fail) Tree.fail) Tree.fail) (Tree.leaf { e := Ex.exit 0, vs := [V.any, V.any], upd := [none, none, none, none], new := [] })) := by
  kernel_rfl
theorem nw2_round (n m p q : Nat) (cp : Option Nat) (f N k : Int) (rs qs : List (List V)) (os ss : List Int) : (evRound P (specsOf nwG) (loopsOf []) 73 [0, 1, 6, 27, 28, 29] [4, 5] (loopAt Tryd.f21 0) [.int .i64 f, .sl 0 0 0 2 n cp, .ptr 1 0 0 0, .sl 0 0 0 2 n cp, .int .i64 N, .int .i64 k] [.rows lpK rs, .cells [.sl 2 0 0 2 m none, .sl 3 0 0 1 p none, .sl 4 0 0 1 q none], .rows lpK qs, .ints .i64 os, .ints .i64 ss]).den = Tree.den (Tree.ite (decide (k < N)) (Tree.ite (decide (0 ≤ k) && decide (k < (↑n : Int))) (Tree.ite (decide (0 + k.toNat < rs.length)) (Tree.ite (decide (n = rs.length) && decide (0 ≤ k) && decide (k < (↑n : Int)) && decide (n ≤ 1000000)) (Tree.ite (!rtB (lps rs) k.toNat) (Tree.leaf { e := Ex.ret, vs := [V.nilp, V.int IntKind.i64 160], upd := [none, none, none, none, none], new := [] }) (Tree.ite (decide ((V.toInt ((rs.getD (0 + k.toNat) []).getD 1 V.any)) < 0)) (Tree.ite (decide (0 + q ≤ ss.length) && true) (Tree.ite (decide ((List.take q (List.drop 0 ss) ++ List.take 1 (List.drop 0 [IntKind.i64.wrap (IntKind.i64.wrap (IntKind.i64.wrap (IntKind.i64.wrap ((V.toInt ((rs.getD (0 + k.toNat) []).getD 0 V.any)) + 1) * 86400) + f) - 1)])).length * 8 ≤ 140737488355328)) (Tree.ite (decide (0 + p ≤ os.length) && true) (Tree.ite (decide ((List.take p (List.drop 0 os) ++ List.take 1 (List.drop 0 [IntKind.i64.wrap (f + (V.toInt ((rs.getD (0 + k.toNat) []).getD 1 V.any)))])).length * 8 ≤ 140737488355328)) (Tree.leaf { e := Ex.nrm, vs := [V.int IntKind.i64 (IntKind.i64.wrap (f + (V.toInt ((rs.getD (0 + k.toNat) []).getD 1 V.any)))), V.sl 0 0 0 2 n cp, V.ptr 1 0 0 0, V.sl 0 0 0 2 n cp, V.int IntKind.i64 N, V.int IntKind.i64 (IntKind.i64.wrap (k + 1))], upd := [none, some (some (Body.cells [V.sl 2 0 0 2 m none, V.sl 5 0 0 1 (List.take p (List.drop 0 os) ++ List.take 1 (List.drop 0 [IntKind.i64.wrap (f + (V.toInt ((rs.getD (0 + k.toNat) []).getD 1 V.any)))])).length none, V.sl 6 0 0 1 (List.take q (List.drop 0 ss) ++ List.take 1 (List.drop 0 [IntKind.i64.wrap (IntKind.i64.wrap (IntKind.i64.wrap (IntKind.i64.wrap ((V.toInt ((rs.getD (0 + k.toNat) []).getD 0 V.any)) + 1) * 86400) + f) - 1)])).length none])), none, some none, some none], new := [Body.ints IntKind.i64 (List.take p (List.drop 0 os) ++ List.take 1 (List.drop 0 [IntKind.i64.wrap (f + (V.toInt ((rs.getD (0 + k.toNat) []).getD 1 V.any)))])), Body.ints IntKind.i64 (List.take q (List.drop 0 ss) ++ List.take 1 (List.drop 0 [IntKind.i64.wrap (IntKind.i64.wrap (IntKind.i64.wrap (IntKind.i64.wrap ((V.toInt ((rs.getD (0 + k.toNat) []).getD 0 V.any)) + 1) * 86400) + f) - 1)]))] }) Tree.fail) Tree.fail) Tree.fail) Tree.fail) (Tree.ite (decide (0 + q ≤ ss.length) && true) (Tree.ite (decide ((List.take q (List.drop 0 ss) ++ List.take 1 (List.drop 0 [IntKind.i64.wrap (IntKind.i64.wrap (IntKind.i64.wrap ((V.toInt ((rs.getD (0 + k.toNat) []).getD 0 V.any)) + 1) * 86400) + f)])).length * 8 ≤ 140737488355328)) (Tree.ite (decide (0 + p ≤ os.length) && true) (Tree.ite (decide ((List.take p (List.drop 0 os) ++ List.take 1 (List.drop 0 [IntKind.i64.wrap (f + (V.toInt ((rs.getD (0 + k.toNat) []).getD 1 V.any)))])).length * 8 ≤ 140737488355328)) (Tree.leaf { e := Ex.nrm, vs := [V.int IntKind.i64 (IntKind.i64.wrap (f + (V.toInt ((rs.getD (0 + k.toNat) []).getD 1 V.any)))), V.sl 0 0 0 2 n cp, V.ptr 1 0 0 0, V.sl 0 0 0 2 n cp, V.int IntKind.i64 N, V.int IntKind.i64 (IntKind.i64.wrap (k + 1))], upd := [none, some (some (Body.cells [V.sl 2 0 0 2 m none, V.sl 5 0 0 1 (List.take p (List.drop 0 os) ++ List.take 1 (List.drop 0 [IntKind.i64.wrap (f + (V.toInt ((rs.getD (0 + k.toNat) []).getD 1 V.any)))])).length none, V.sl 6 0 0 1 (List.take q (List.drop 0 ss) ++ List.take 1 (List.drop 0 [IntKind.i64.wrap (IntKind.i64.wrap (IntKind.i64.wrap ((V.toInt ((rs.getD (0 + k.toNat) []).getD 0 V.any)) + 1) * 86400) + f)])).length none])), none, some none, some none], new := [Body.ints IntKind.i64 (List.take p (List.drop 0 os) ++ List.take 1 (List.drop 0 [IntKind.i64.wrap (f + (V.toInt ((rs.getD (0 + k.toNat) []).getD 1 V.any)))])), Body.ints IntKind.i64 (List.take q (List.drop 0 ss) ++ List.take 1 (List.drop 0 [IntKind.i64.wrap (IntKind.i64.wrap (IntKind.i64.wrap ((V.toInt ((rs.getD (0 + k.toNat) []).getD 0 V.any)) + 1) * 86400) + f)]))] }) Tree.fail) Tree.fail) Tree.fail) Tree.fail))) Tree.fail) Tree.fail) Tree.fail) (Tree.leaf { e := Ex.exit 0, vs := [V.any, V.any], upd := [none, none, none, none, none], new := [] })) := by
  kernel_rfl
theorem nw0_round (f N k o : Int) : (evRound P (specsOf nwG) (loopsOf []) 73 [0, 1, 6, 27, 28, 29] [4, 5] (loopAt Tryd.f21 0) [.int .i64 f, .nils, .ptr 0 0 0 0, .nils, .int .i64 N, .int .i64 k] [.cells [.nils, .sl 1 0 0 1 1 (some 1), .nils], .ints .i64 [o]]).den = Tree.den (Tree.ite (decide (k < N)) Tree.fail (Tree.leaf { e := Ex.exit 0, vs := [V.any, V.any], upd := [none, none], new := [] })) := by
  kernel_rfl

/-- A round that goes on, told plainly. -/
theorem nw2_step {n m : Nat} {cp : Option Nat} {f : Int} {k : Nat} {rs qs : List (List V)} {os ss : List Int} {x : Lp} (hn : n = rs.length) (hk : k < n) (hn2 : n ≤ 1000000) (hx : (lps rs).getD k ⟨0, 0⟩ = x) (hr : rtB (lps rs) k = true) (hd : inDay x = true)
    (hf : -2000000 ≤ f ∧ f ≤ 2000000) (ho : os.length ≤ 2000000) (hs : ss.length ≤ 2000000) :
    (evRound P (specsOf nwG) (loopsOf []) 73 [0, 1, 6, 27, 28, 29] [4, 5] (loopAt Tryd.f21 0) [.int .i64 f, .sl 0 0 0 2 n cp, .ptr 1 0 0 0, .sl 0 0 0 2 n cp, .int .i64 n, .int .i64 k] [.rows lpK rs, .cells [.sl 2 0 0 2 m none, .sl 3 0 0 1 os.length none, .sl 4 0 0 1 ss.length none], .rows lpK qs, .ints .i64 os, .ints .i64 ss]).den =
    some ⟨.nrm, [.int .i64 (f + x.sign), .sl 0 0 0 2 n cp, .ptr 1 0 0 0, .sl 0 0 0 2 n cp, .int .i64 n, .int .i64 ((k + 1 : Nat) : Int)], [none, some (some (.cells [.sl 2 0 0 2 m none, .sl 5 0 0 1 (os ++ [f + x.sign]).length none, .sl 6 0 0 1 (ss ++ [startZ f x]).length none])), none, some none, some none], [.ints .i64 (os ++ [f + x.sign]), .ints .i64 (ss ++ [startZ f x])]⟩ := by
  rw [nw2_round]
  rw [lps_get] at hx
  have e1 : V.toInt ((rs.getD k []).getD 0 V.any) = x.day := by rw [← hx]; rfl
  have e2 : V.toInt ((rs.getD k []).getD 1 V.any) = x.sign := by rw [← hx]; rfl
  obtain ⟨d1, d2, d3⟩ := inDay_iff.1 hd
  have w1 : IntKind.i64.wrap (f + x.sign) = f + x.sign := wrap64_id (by omega) (by omega)
  have w2 : IntKind.i64.wrap (x.day + 1) = x.day + 1 := wrap64_id (by omega) (by omega)
  have w3 : IntKind.i64.wrap ((x.day + 1) * 86400) = (x.day + 1) * 86400 := wrap64_id (by omega) (by omega)
  have w4 : IntKind.i64.wrap ((x.day + 1) * 86400 + f) = (x.day + 1) * 86400 + f := wrap64_id (by omega) (by omega)
  have w5 : IntKind.i64.wrap ((x.day + 1) * 86400 + f - 1) = (x.day + 1) * 86400 + f - 1 := wrap64_id (by omega) (by omega)
  have w6 : IntKind.i64.wrap ((k : Int) + 1) = ((k + 1 : Nat) : Int) := by rw [wrap64_id (by omega) (by omega)]; omega
  simp only [Nat.zero_add, Int.toNat_natCast, e1, e2, w1, w2, w3, w4, w5, w6, hr, List.drop_zero, List.take_length, List.take_succ_cons, List.take_zero]
  rw [decide_eq_true (show (k : Int) < (n : Int) by omega), decide_eq_true (show (0 : Int) ≤ k by omega), decide_eq_true (show k < rs.length by omega), decide_eq_true hn, decide_eq_true hn2]
  have l1 : (ss ++ [startZ f x]).length * 8 ≤ 140737488355328 := by simp; omega
  have l2 : (os ++ [f + x.sign]).length * 8 ≤ 140737488355328 := by simp; omega
  by_cases h : x.sign < 0
  · have e : startZ f x = (x.day + 1) * 86400 + f - 1 := by unfold startZ; rw [if_pos h]
    rw [e] at l1 ⊢
    simp only [decide_eq_true h, decide_eq_true (Nat.le_refl ss.length), decide_eq_true (Nat.le_refl os.length), decide_eq_true l1, decide_eq_true l2]
    rfl
  · have e : startZ f x = (x.day + 1) * 86400 + f := by unfold startZ; rw [if_neg h]; omega
    rw [e] at l1 ⊢
    simp only [decide_eq_false h, decide_eq_true (Nat.le_refl ss.length), decide_eq_true (Nat.le_refl os.length), decide_eq_true l1, decide_eq_true l2]
    rfl
/-- What stands at the end, of which so many rounds went by. -/
def nwR (e : Ex) (vs : List V) (m : Nat) (os ss : List Int) : List Int → List Int → LRes
  | [], _ => ⟨e, vs, [none, none, none, none, none], []⟩
  | a :: b, c => ⟨e, vs, [none, some (some (.cells [.sl 2 0 0 2 m none, .sl 5 0 0 1 (os ++ a :: b).length none, .sl 6 0 0 1 (ss ++ c).length none])), none, some none, some none], [.ints .i64 (os ++ a :: b), .ints .i64 (ss ++ c)]⟩
def nwE (b : Bool) : Ex := match b with | true => .exit 0 | false => .ret
def nwV (b : Bool) : List V := match b with | true => [.any, .any] | false => [.nilp, .int .i64 160]
theorem nw2_all {n m : Nat} {cp : Option Nat} {rs qs : List (List V)} (hn : n = rs.length) (hn2 : n ≤ 1000000) : ∀ (rest : List Lp) (k : Nat) (f : Int) (os ss : List Int), (lps rs).drop k = rest → k + rest.length = n →
    (∀ d, prevOf (lps rs) k = some d → 1 ≤ d ∧ d ≤ 2932895) → -2000000 ≤ f - rest.length → f + rest.length ≤ 2000000 → os.length + rest.length ≤ 2000000 → ss.length + rest.length ≤ 2000000 →
    (loopN P (specsOf nwG) (loopsOf []) 73 [0, 1, 6, 27, 28, 29] [4, 5] (loopAt Tryd.f21 0) (pre (prevOf (lps rs) k) rest + 1) [.int .i64 f, .sl 0 0 0 2 n cp, .ptr 1 0 0 0, .sl 0 0 0 2 n cp, .int .i64 n, .int .i64 k] [.rows lpK rs, .cells [.sl 2 0 0 2 m none, .sl 3 0 0 1 os.length none, .sl 4 0 0 1 ss.length none], .rows lpK qs, .ints .i64 os, .ints .i64 ss]).den =
    some (nwR (nwE (pre (prevOf (lps rs) k) rest == rest.length)) (nwV (pre (prevOf (lps rs) k) rest == rest.length)) m os ss (offsF f (rest.take (pre (prevOf (lps rs) k) rest))) (stF f (rest.take (pre (prevOf (lps rs) k) rest)))) := by
  intro rest
  induction rest with
  | nil =>
    intro k f os ss hr hk _ _ _ _ _
    have hx := nw2_round n m os.length ss.length cp f n k rs qs os ss
    rw [decide_eq_false (show ¬ (k : Int) < (n : Int) by simp at hk; omega)] at hx
    exact loopN_end hx (by show Ex.exit 0 ≠ Ex.nrm; decide)
  | cons x xs ih =>
    intro k f os ss hr hk hp hf1 hf2 ho hs
    simp only [List.length_cons] at hk hf1 hf2 ho hs
    have hx : (lps rs).getD k ⟨0, 0⟩ = x := by
      have := congrArg (fun l => l.getD 0 ⟨0, 0⟩) hr
      simpa [List.getD_eq_getElem?_getD] using this
    have hq := rt_okL hp
    rw [hx] at hq
    by_cases hg : okL (prevOf (lps rs) k) x = true
    · have e1 : pre (prevOf (lps rs) k) (x :: xs) = pre (some x.day) xs + 1 := by rw [pre, if_pos hg]
      have hd : inDay x = true := by simp only [okL, Bool.and_eq_true] at hg; exact hg.1
      obtain ⟨d1, d2, d3⟩ := inDay_iff.1 hd
      have hpn : prevOf (lps rs) (k + 1) = some x.day := by rw [prevOf, hx]
      have st := nw2_step (cp := cp) (m := m) (qs := qs) (os := os) (ss := ss) hn (by omega) hn2 hx (hq.trans hg) hd (f := f) (by omega) (by omega) (by omega)
      have ih' := ih (k + 1) (f + x.sign) (os ++ [f + x.sign]) (ss ++ [startZ f x]) (by rw [← List.drop_drop, hr]; rfl) (by omega) (by rw [hpn]; intro d h; cases h; omega) (by omega) (by omega) (by simp; omega) (by simp; omega)
      rw [hpn] at ih'
      rw [e1]
      have e2 : (pre (some x.day) xs + 1 == (x :: xs).length) = (pre (some x.day) xs == xs.length) := by simp
      rw [e2, List.take_succ_cons, offsF, stF]
      refine loopN_step st rfl (vals' := [.int .i64 (f + x.sign), .sl 0 0 0 2 n cp, .ptr 1 0 0 0, .sl 0 0 0 2 n cp, .int .i64 n, .int .i64 ((k + 1 : Nat) : Int)]) (bs' := [.rows lpK rs, .cells [.sl 2 0 0 2 m none, .sl 3 0 0 1 (os ++ [f + x.sign]).length none, .sl 4 0 0 1 (ss ++ [startZ f x]).length none], .rows lpK qs, .ints .i64 (os ++ [f + x.sign]), .ints .i64 (ss ++ [startZ f x])]) (by kernel_rfl) (by kernel_rfl) (by kernel_rfl) ih' ?_
      generalize (pre (some x.day) xs == xs.length) = ee
      have hz : (offsF (f + x.sign) (List.take (pre (some x.day) xs) xs)).length = (stF (f + x.sign) (List.take (pre (some x.day) xs) xs)).length := by rw [offs_len, st_len]
      revert hz
      generalize offsF (f + x.sign) (List.take (pre (some x.day) xs) xs) = O
      generalize stF (f + x.sign) (List.take (pre (some x.day) xs) xs) = S
      intro hz
      cases O with
      | nil =>
        cases S with
        | cons c d => simp at hz
        | nil => cases ee <;> (show (seqAfter _ _ _).den = some _; kernel_rfl)
      | cons a b =>
        simp only [nwR]
        rw [show os ++ (f + x.sign) :: (a :: b) = (os ++ [f + x.sign]) ++ a :: b by simp, show ss ++ startZ f x :: S = (ss ++ [startZ f x]) ++ S by simp]
        cases ee <;> (show (seqAfter _ _ _).den = some _; kernel_rfl)
    · have e1 : pre (prevOf (lps rs) k) (x :: xs) = 0 := by rw [pre, if_neg hg]
      rw [e1]
      have hx := nw2_round n m os.length ss.length cp f n k rs qs os ss
      have hg' : okL (prevOf (lps rs) k) x = false := by simpa using hg
      simp only [Nat.zero_add, Int.toNat_natCast, hq, hg', decide_eq_true (show (k : Int) < (n : Int) by omega), decide_eq_true (show (0 : Int) ≤ k by omega), decide_eq_true (show k < rs.length by omega), decide_eq_true hn, decide_eq_true hn2] at hx
      exact loopN_end hx (by show Ex.ret ≠ Ex.nrm; decide)
theorem nw1_step {n m : Nat} {cp : Option Nat} {f o : Int} {rs qs : List (List V)} {x : Lp} (hn : n = rs.length) (hk : 0 < n) (hn2 : n ≤ 1000000) (hx : (lps rs).getD 0 ⟨0, 0⟩ = x) (hr : rtB (lps rs) 0 = true) (hd : inDay x = true)
    (hf : -2000000 ≤ f ∧ f ≤ 2000000) :
    (evRound P (specsOf nwG) (loopsOf []) 73 [0, 1, 6, 27, 28, 29] [4, 5] (loopAt Tryd.f21 0) [.int .i64 f, .sl 0 0 0 2 n cp, .ptr 1 0 0 0, .sl 0 0 0 2 n cp, .int .i64 n, .int .i64 0] [.rows lpK rs, .cells [.sl 2 0 0 2 m none, .sl 3 0 0 1 1 (some 1), .nils], .rows lpK qs, .ints .i64 [o]]).den =
    some ⟨.nrm, [.int .i64 (f + x.sign), .sl 0 0 0 2 n cp, .ptr 1 0 0 0, .sl 0 0 0 2 n cp, .int .i64 n, .int .i64 ((1 : Nat) : Int)], [none, some (some (.cells [.sl 2 0 0 2 m none, .sl 4 0 0 1 2 none, .sl 5 0 0 1 1 none])), none, none], [.ints .i64 [o, f + x.sign], .ints .i64 [startZ f x]]⟩ := by
  rw [nw1_round]
  rw [lps_get] at hx
  have e1 : V.toInt ((rs.getD 0 []).getD 0 V.any) = x.day := by rw [← hx]; rfl
  have e2 : V.toInt ((rs.getD 0 []).getD 1 V.any) = x.sign := by rw [← hx]; rfl
  obtain ⟨d1, d2, d3⟩ := inDay_iff.1 hd
  have w1 : IntKind.i64.wrap (f + x.sign) = f + x.sign := wrap64_id (by omega) (by omega)
  have w2 : IntKind.i64.wrap (x.day + 1) = x.day + 1 := wrap64_id (by omega) (by omega)
  have w3 : IntKind.i64.wrap ((x.day + 1) * 86400) = (x.day + 1) * 86400 := wrap64_id (by omega) (by omega)
  have w4 : IntKind.i64.wrap ((x.day + 1) * 86400 + f) = (x.day + 1) * 86400 + f := wrap64_id (by omega) (by omega)
  have w5 : IntKind.i64.wrap ((x.day + 1) * 86400 + f - 1) = (x.day + 1) * 86400 + f - 1 := wrap64_id (by omega) (by omega)
  have w6 : IntKind.i64.wrap ((0 : Int) + 1) = ((1 : Nat) : Int) := by rw [wrap64_id (by omega) (by omega)]; omega
  simp only [Nat.zero_add, Int.toNat_zero, e1, e2, w1, w2, w3, w4, w5, w6, hr, List.drop_zero, List.take_succ_cons, List.take_zero]
  rw [decide_eq_true (show (0 : Int) < (n : Int) by omega), decide_eq_true (show 0 < rs.length by omega), decide_eq_true hn, decide_eq_true hn2]
  by_cases h : x.sign < 0
  · have e : startZ f x = (x.day + 1) * 86400 + f - 1 := by unfold startZ; rw [if_pos h]
    rw [e]
    simp only [decide_eq_true h]
    rfl
  · have e : startZ f x = (x.day + 1) * 86400 + f := by unfold startZ; rw [if_neg h]; omega
    rw [e]
    simp only [decide_eq_false h]
    rfl
def nwR1 (e : Ex) (vs : List V) (m : Nat) (o : Int) : List Int → List Int → LRes
  | [], _ => ⟨e, vs, [none, none, none, none], []⟩
  | a :: b, c => ⟨e, vs, [none, some (some (.cells [.sl 2 0 0 2 m none, .sl 4 0 0 1 (o :: a :: b).length none, .sl 5 0 0 1 c.length none])), none, none], [.ints .i64 (o :: a :: b), .ints .i64 c]⟩
theorem nw1_all {n m : Nat} {cp : Option Nat} {rs qs : List (List V)} {f o : Int} (hn : n = rs.length) (hn1 : 1 ≤ n) (hn2 : n ≤ 1000000) (hf1 : 0 ≤ f) (hf2 : f ≤ 30000) :
    (loopN P (specsOf nwG) (loopsOf []) 73 [0, 1, 6, 27, 28, 29] [4, 5] (loopAt Tryd.f21 0) (pre none (lps rs) + 1) [.int .i64 f, .sl 0 0 0 2 n cp, .ptr 1 0 0 0, .sl 0 0 0 2 n cp, .int .i64 n, .int .i64 0] [.rows lpK rs, .cells [.sl 2 0 0 2 m none, .sl 3 0 0 1 1 (some 1), .nils], .rows lpK qs, .ints .i64 [o]]).den =
    some (nwR1 (nwE (pre none (lps rs) == n)) (nwV (pre none (lps rs) == n)) m o (offsF f ((lps rs).take (pre none (lps rs)))) (stF f ((lps rs).take (pre none (lps rs))))) := by
  have hl : (lps rs).length = n := by simp [lps, hn]
  cases hls : lps rs with
  | nil => rw [hls] at hl; simp at hl; omega
  | cons x xs =>
    have hx : (lps rs).getD 0 ⟨0, 0⟩ = x := by rw [hls]; rfl
    have hq := rt_okL (ls := lps rs) (k := 0) (by intro d h; cases h)
    rw [hx] at hq
    rw [hls] at hl
    simp only [List.length_cons] at hl
    by_cases hg : okL none x = true
    · have e1 : pre none (x :: xs) = pre (some x.day) xs + 1 := by rw [pre, if_pos hg]
      have hd : inDay x = true := by simp only [okL, Bool.and_eq_true] at hg; exact hg.1
      obtain ⟨d1, d2, d3⟩ := inDay_iff.1 hd
      have hpn : prevOf (lps rs) (0 + 1) = some x.day := by rw [prevOf, hx]
      have st := nw1_step (cp := cp) (m := m) (qs := qs) (o := o) hn (by omega) hn2 hx (hq.trans hg) hd (f := f) (by omega)
      have ih' := nw2_all (cp := cp) (m := m) (qs := qs) hn hn2 xs 1 (f + x.sign) [o, f + x.sign] [startZ f x] (by rw [hls]; rfl) (by omega) (by rw [hpn]; intro d h; cases h; omega) (by omega) (by omega) (by simp; omega) (by simp; omega)
      rw [hpn] at ih'
      rw [e1]
      have e2 : (pre (some x.day) xs + 1 == n) = (pre (some x.day) xs == xs.length) := by rw [← hl]; simp
      rw [e2, List.take_succ_cons, offsF, stF]
      refine loopN_step st rfl (vals' := [.int .i64 (f + x.sign), .sl 0 0 0 2 n cp, .ptr 1 0 0 0, .sl 0 0 0 2 n cp, .int .i64 n, .int .i64 ((1 : Nat) : Int)]) (bs' := [.rows lpK rs, .cells [.sl 2 0 0 2 m none, .sl 3 0 0 1 2 none, .sl 4 0 0 1 1 none], .rows lpK qs, .ints .i64 [o, f + x.sign], .ints .i64 [startZ f x]]) (by kernel_rfl) (by kernel_rfl) (by kernel_rfl) ih' ?_
      generalize (pre (some x.day) xs == xs.length) = ee
      have hz : (offsF (f + x.sign) (List.take (pre (some x.day) xs) xs)).length = (stF (f + x.sign) (List.take (pre (some x.day) xs) xs)).length := by rw [offs_len, st_len]
      revert hz
      generalize offsF (f + x.sign) (List.take (pre (some x.day) xs) xs) = O
      generalize stF (f + x.sign) (List.take (pre (some x.day) xs) xs) = S
      intro hz
      cases O with
      | nil =>
        cases S with
        | cons c d => simp at hz
        | nil => cases ee <;> (show (seqAfter _ _ _).den = some _; kernel_rfl)
      | cons a b =>
        cases ee <;> (show (seqAfter _ _ _).den = some _; kernel_rfl)
    · have e1 : pre none (x :: xs) = 0 := by rw [pre, if_neg hg]
      rw [e1]
      have hx := nw1_round n m cp f n 0 o rs qs
      have hg' : okL none x = false := by simpa using hg
      simp only [Nat.zero_add, Int.toNat_zero, hq, prevOf, hg', decide_eq_true (show (0 : Int) < (n : Int) by omega), decide_eq_true (show 0 < rs.length by omega), decide_eq_true hn, decide_eq_true hn2] at hx
      rw [show (0 == n) = false by simp; omega]
      exact loopN_end hx (by show Ex.ret ≠ Ex.nrm; decide)
def nwF (vals : List V) (bs : List Blk) : Tree LRes := match vals, bs with
  | [.int .i64 f, .sl 0 0 0 2 n cp, .ptr 1 0 0 0, .sl 0 0 0 2 n' cp', .int .i64 N, .int .i64 k], [.rows [.int .i64, .int .i64] rs, .cells [.sl 2 0 0 2 m none, .sl 3 0 0 1 1 (some 1), .nils], .rows [.int .i64, .int .i64] qs, .ints .i64 [o]] =>
    .need (decide (n' = n) && decide (cp' = cp) && decide (n = rs.length) && decide (N = n) && decide (k = 0) && decide (1 ≤ n) && decide (n ≤ 1000000) && decide (0 ≤ f) && decide (f ≤ 30000))
      (.ite (decide (pre none (lps rs) = n)) (.leaf ⟨.exit 0, [.any, .any], [none, some (some (.cells [.sl 2 0 0 2 m none, .sl 4 0 0 1 (n + 1) none, .sl 5 0 0 1 n none])), none, none], [.ints .i64 (o :: offsF f (lps rs)), .ints .i64 (stF f (lps rs))]⟩)
        (.ite (decide (pre none (lps rs) = 0)) (.leaf ⟨.ret, [.nilp, .int .i64 160], [none, none, none, none], []⟩)
          (.leaf ⟨.ret, [.nilp, .int .i64 160], [none, some (some (.cells [.sl 2 0 0 2 m none, .sl 4 0 0 1 (pre none (lps rs) + 1) none, .sl 5 0 0 1 (pre none (lps rs)) none])), none, none], [.ints .i64 (o :: offsF f ((lps rs).take (pre none (lps rs)))), .ints .i64 (stF f ((lps rs).take (pre none (lps rs))))]⟩)))
  | [.int .i64 f, .nils, .ptr 0 0 0 0, .nils, .int .i64 N, .int .i64 k], [.cells [.nils, .sl 1 0 0 1 1 (some 1), .nils], .ints .i64 [o]] =>
    .need (decide (N = 0) && decide (k = 0)) (.leaf ⟨.exit 0, [.any, .any], [none, none], []⟩)
  | _, _ => .fail
def nwL : LSpec := ⟨73, [0, 1, 6, 27, 28, 29], [4, 5], nwF⟩
theorem nw_loop : LoopOK P (loopAt Tryd.f21 0) nwL := by
  refine loop_ok nwG_ok Go.Proofs.YtbfiaogmfjadeaaDoor.hm (Λ := loopsOf []) (LoopsOK.nil (by kernel_rfl)) _ ?_
  intro vals bs r h
  simp only [nwL, nwF] at h
  split at h
  · rename_i f n cp n' cp' N k rs m qs o
    rw [den_need] at h
    simp only [Bool.and_eq_true, decide_eq_true_eq] at h
    obtain ⟨⟨⟨⟨⟨⟨⟨⟨⟨rfl, rfl⟩, h2⟩, rfl⟩, rfl⟩, h5⟩, h6⟩, h7⟩, h8⟩, h⟩ := h
    have := nw1_all (cp := cp') (m := m) (qs := qs) (o := o) h2 h5 h6 h7 h8
    refine ⟨pre none (lps rs) + 1, ?_⟩
    refine this.trans ?_
    rw [denI, denI, denLf, denLf, denLf] at h
    have hl : (lps rs).length = n' := by simp [lps, h2]
    have hle := pre_le none (lps rs)
    by_cases he : pre none (lps rs) = n'
    · rw [if_pos (by simpa using he)] at h
      rw [show (pre none (lps rs) == n') = true by simpa using he, show List.take (pre none (lps rs)) (lps rs) = lps rs from List.take_of_length_le (by omega)]
      rw [← h, ← hl]
      cases hls : lps rs with
      | nil => rw [hls] at hl; simp at hl; omega
      | cons x xs =>
        simp only [offsF, stF, nwR1, nwE, nwV, List.length_cons, offs_len, st_len]
    · rw [if_neg (by simpa using he)] at h
      rw [show (pre none (lps rs) == n') = false by simpa using he]
      cases hc : pre none (lps rs) with
      | zero => rw [hc] at h; rw [if_pos (by decide)] at h; rw [← h]; rfl
      | succ c =>
        rw [hc] at h; rw [if_neg (by simp)] at h; rw [← h]
        have hlt : (List.take (c + 1) (lps rs)).length = c + 1 := by rw [List.length_take]; omega
        cases hls : List.take (c + 1) (lps rs) with
        | nil => rw [hls] at hlt; simp at hlt
        | cons x xs =>
          rw [hls] at hlt
          simp only [List.length_cons] at hlt
          simp only [offsF, stF, nwR1, nwE, nwV, List.length_cons, offs_len, st_len]
          rw [← hlt]
  · rename_i f N k o
    rw [den_need, denLf] at h
    simp only [Bool.and_eq_true, decide_eq_true_eq] at h
    obtain ⟨⟨rfl, rfl⟩, h⟩ := h
    cases h
    exact ⟨1, loopN_end (nw0_round f 0 0 o) (by simp)⟩
  · simp [den_fail] at h
end Go.Proofs.YtbfiaogmfjadeaaDoor

set_option maxRecDepth 100000
set_option linter.unusedSimpArgs false
set_option linter.unusedVariables false
namespace Go.Proofs.YtbfiaogmfjadeaaDoor
open Go.Rx

/-- The offset at a time, and the day whose sixtieth second it is. -/
def lookF (f : Int) : List Lp → Int → Int × Option Int
  | [], _ => (f, none)
  | x :: xs, t =>
    if x.sign = 1 then
      if t = (x.day + 1) * 86400 + f then (f, some x.day)
      else if t > (x.day + 1) * 86400 + f then lookF (f + 1) xs t else (f, none)
    else if t ≥ (x.day + 1) * 86400 - 1 + f then lookF (f - 1) xs t else (f, none)
def secB (f : Int) (ls : List Lp) (t : Int) : Bool := decide (0 < lead t (stF f ls)) && decide ((ls.getD (lead t (stF f ls) - 1) ⟨0, 0⟩).sign > 0) && ((stF f ls).getD (lead t (stF f ls) - 1) 0 == t)
theorem okL_iff {p : Option Int} {x : Lp} : okL p x = true ↔ 1 ≤ x.day ∧ x.day ≤ 2932895 ∧ (x.sign = 1 ∨ x.sign = -1) ∧ ∀ d, p = some d → d + 2 ≤ x.day := by
  unfold okL
  rw [Bool.and_eq_true, inDay_iff]
  cases p <;> simp <;> omega
theorem pre_cons {p : Option Int} {x : Lp} {xs : List Lp} (h : pre p (x :: xs) = (x :: xs).length) : okL p x = true ∧ pre (some x.day) xs = xs.length := by
  simp only [pre, List.length_cons] at h
  by_cases hg : okL p x = true
  · rw [if_pos hg] at h; exact ⟨hg, by omega⟩
  · rw [if_neg hg] at h; omega
/-- The next leap starts later. -/
theorem st_head {d f : Int} {xs : List Lp} {t : Int} (h : pre (some d) xs = xs.length) (ht : t < (d + 3) * 86400 + f - 1) : lead t (stF f xs) = 0 := by
  cases xs with
  | nil => rfl
  | cons x xs =>
    obtain ⟨h1, _⟩ := pre_cons h
    obtain ⟨a1, a2, a3, a4⟩ := okL_iff.1 h1
    have := a4 d rfl
    simp only [stF, lead]
    rw [if_neg]
    unfold startZ
    split <;> omega
theorem look_hap (t : Int) : ∀ (ls : List Lp) (p : Option Int) (f : Int), pre p ls = ls.length →
    (lookF f ls t).2 = (if secB f ls t = true then some (ls.getD (lead t (stF f ls) - 1) ⟨0, 0⟩).day else none) ∧
    (lookF f ls t).1 = (f :: offsF f ls).getD (if secB f ls t = true then lead t (stF f ls) - 1 else lead t (stF f ls)) 0
  | [], p, f, _ => ⟨rfl, rfl⟩
  | x :: xs, p, f, h => by
    obtain ⟨h1, h2⟩ := pre_cons h
    obtain ⟨a1, a2, a3, a4⟩ := okL_iff.1 h1
    have ih := look_hap t xs (some x.day) (f + x.sign) h2
    by_cases hs : startZ f x ≤ t
    · have el : lead t (stF f (x :: xs)) = lead t (stF (f + x.sign) xs) + 1 := by simp only [stF, lead, if_pos hs]
      cases hk : lead t (stF (f + x.sign) xs) with
      | zero =>
        have e0 : secB (f + x.sign) xs t = false := by simp [secB, hk]
        rw [e0, if_neg (by decide), if_neg (by decide), hk] at ih
        have es : secB f (x :: xs) t = (decide (x.sign > 0) && (startZ f x == t)) := by unfold secB; rw [el, hk]; simp [stF]
        rw [el, hk, es]
        rcases a3 with a3 | a3
        · have e1 : startZ f x = (x.day + 1) * 86400 + f := by unfold startZ; rw [if_neg (by omega)]; omega
          rw [lookF, if_pos a3, e1, a3]
          by_cases ht : t = (x.day + 1) * 86400 + f
          · rw [if_pos ht, if_pos (by simp; omega), if_pos (by simp; omega)]; exact ⟨rfl, rfl⟩
          · rw [if_neg ht, if_pos (by omega), if_neg (by simp; omega), if_neg (by simp; omega)]
            rw [a3] at ih
            refine ⟨ih.1, ih.2.trans ?_⟩
            simp [offsF, a3]
        · rw [lookF, if_neg (by omega)]
          have e1 : startZ f x = (x.day + 1) * 86400 + f - 1 := by unfold startZ; rw [if_pos (by omega)]
          rw [if_pos (by omega), a3, if_neg (by simp), if_neg (by simp)]
          rw [a3] at ih
          refine ⟨ih.1, ih.2.trans ?_⟩
          simp [offsF, a3]
      | succ k =>
        have es : secB f (x :: xs) t = secB (f + x.sign) xs t := by unfold secB; rw [el, hk]; simp [stF]
        rw [es, el, hk]
        rw [hk] at ih
        have hne : ¬ (x.sign = 1 ∧ t = (x.day + 1) * 86400 + f) := by
          intro hc
          have := st_head (d := x.day) (f := f + x.sign) (t := t) h2 (by omega)
          omega
        have e2 : lookF f (x :: xs) t = lookF (f + x.sign) xs t := by
          rcases a3 with a3 | a3
          · have e1 : startZ f x = (x.day + 1) * 86400 + f := by unfold startZ; rw [if_neg (by omega)]; omega
            rw [lookF, if_pos a3, if_neg (by omega), if_pos (by omega), a3]
          · have e1 : startZ f x = (x.day + 1) * 86400 + f - 1 := by unfold startZ; rw [if_pos (by omega)]
            rw [lookF, if_neg (by omega), if_pos (by omega), a3]; rfl
        rw [e2]
        refine ⟨ih.1.trans ?_, ih.2.trans ?_⟩
        · simp
        · by_cases hb : secB (f + x.sign) xs t = true
          · rw [if_pos hb, if_pos hb]; simp [offsF]
          · rw [if_neg hb, if_neg hb]; simp [offsF]
    · have el : lead t (stF f (x :: xs)) = 0 := by simp only [stF, lead, if_neg hs]
      have es : secB f (x :: xs) t = false := by simp [secB, el]
      rw [es, el, if_neg (by decide), if_neg (by decide)]
      have e2 : lookF f (x :: xs) t = (f, none) := by
        rcases a3 with a3 | a3
        · have e1 : startZ f x = (x.day + 1) * 86400 + f := by unfold startZ; rw [if_neg (by omega)]; omega
          rw [lookF, if_pos a3, if_neg (by omega), if_neg (by omega)]
        · have e1 : startZ f x = (x.day + 1) * 86400 + f - 1 := by unfold startZ; rw [if_pos (by omega)]
          rw [lookF, if_neg (by omega), if_neg (by omega)]
      rw [e2]; exact ⟨rfl, rfl⟩
theorem look_bd (t : Int) : ∀ (ls : List Lp) (f : Int), f - ls.length ≤ (lookF f ls t).1 ∧ (lookF f ls t).1 ≤ f + ls.length
  | [], f => by simp [lookF]
  | x :: xs, f => by
    have h1 := look_bd t xs (f + 1)
    have h2 := look_bd t xs (f - 1)
    simp only [lookF, List.length_cons]
    split
    · split
      · simp; omega
      · split
        · omega
        · simp; omega
    · split
      · omega
      · simp; omega
theorem look_day (t : Int) : ∀ (ls : List Lp) (p : Option Int) (f d : Int), pre p ls = ls.length → (lookF f ls t).2 = some d → 1 ≤ d ∧ d ≤ 2932895
  | [], _, _, _, _, h => by simp [lookF] at h
  | x :: xs, p, f, d, hp, h => by
    obtain ⟨h1, h2⟩ := pre_cons hp
    obtain ⟨a1, a2, a3, a4⟩ := okL_iff.1 h1
    simp only [lookF] at h
    split at h
    · split at h
      · simp only [Option.some.injEq] at h; omega
      · split at h
        · exact look_day t xs _ _ d h2 h
        · simp at h
    · split at h
      · exact look_day t xs _ _ d h2 h
      · simp at h
end Go.Proofs.YtbfiaogmfjadeaaDoor

set_option maxRecDepth 100000
set_option linter.unusedSimpArgs false
set_option linter.unusedVariables false
namespace Go.Proofs.YtbfiaogmfjadeaaDoor
open Go.Rx
def goodT (f : Int) (ls : List Lp) : Bool := decide (0 ≤ f) && decide (f ≤ 30000) && decide (ls.length ≤ 64) && decide (pre none ls = ls.length)
theorem goodT_iff {f : Int} {ls : List Lp} : goodT f ls = true ↔ 0 ≤ f ∧ f ≤ 30000 ∧ ls.length ≤ 64 ∧ pre none ls = ls.length := by
  simp [goodT, and_assoc]
def tabA (f : Int) (rs : List (List V)) : List Blk := [.cells [.sl 1 0 0 2 rs.length none, .sl 2 0 0 1 (rs.length + 1) none, .sl 3 0 0 1 rs.length none], .rows lpK rs, .ints .i64 (f :: offsF f (lps rs)), .ints .i64 (stF f (lps rs))]
def tabN (f : Int) : List Blk := [.cells [.nils, .sl 1 0 0 1 1 (some 1), .nils], .ints .i64 [f]]
def okTA (n m q : Nat) (f : Int) (rs : List (List V)) (os ss : List Int) : Bool := decide (n = rs.length) && decide (m = rs.length + 1) && decide (q = rs.length) && decide (os = offsF f (lps rs)) && decide (ss = stF f (lps rs)) && goodT f (lps rs) && decide (1 ≤ n)
/-- What is said of a table, however it lies. -/
def onT (bs : List Blk) (k : Int → List Lp → List (Option (Option Blk)) → Tree Res) : Tree Res := match bs with
  | [.cells [.sl 1 0 0 2 n none, .sl 2 0 0 1 m none, .sl 3 0 0 1 q none], .rows [.int .i64, .int .i64] rs, .ints .i64 (f :: os), .ints .i64 ss] => .need (okTA n m q f rs os ss) (k f (lps rs) [none, none, none, none])
  | [.cells [.nils, .sl 1 0 0 1 1 (some 1), .nils], .ints .i64 [f]] => .need (goodT f []) (k f [] [none, none])
  | _ => .fail
theorem okTA_of {f : Int} {rs : List (List V)} (h : goodT f (lps rs) = true) (h1 : 1 ≤ rs.length) : okTA rs.length (rs.length + 1) rs.length f rs (offsF f (lps rs)) (stF f (lps rs)) = true := by
  simp [okTA, h, h1]
theorem onT_den {bs : List Blk} {k : Int → List Lp → List (Option (Option Blk)) → Tree Res} {r : Res} (h : (onT bs k).den = some r) :
    (∃ f rs, bs = tabA f rs ∧ goodT f (lps rs) = true ∧ 1 ≤ rs.length ∧ (k f (lps rs) [none, none, none, none]).den = some r) ∨ (∃ f, bs = tabN f ∧ goodT f [] = true ∧ (k f [] [none, none]).den = some r) := by
  unfold onT at h
  split at h
  · rename_i n m q rs f os ss
    rw [den_need] at h
    obtain ⟨h, hk⟩ := h
    simp only [okTA, Bool.and_eq_true, decide_eq_true_eq] at h
    obtain ⟨⟨⟨⟨⟨⟨rfl, rfl⟩, rfl⟩, rfl⟩, rfl⟩, h6⟩, h7⟩ := h
    exact .inl ⟨f, rs, rfl, h6, h7, hk⟩
  · rename_i f
    rw [den_need] at h
    exact .inr ⟨f, rfl, h.1, h.2⟩
  · simp [den_fail] at h
theorem lps_len (rs : List (List V)) : (lps rs).length = rs.length := by simp [lps]
abbrev newG : List (Nat × Rx.Spec) := [kpE, (39, cloneS)]
theorem newG_ok : GammaOK P newG := .cons keep_ok (.cons clone_ok (.nil P))
def newS : Rx.Spec := fun a b => match a, b with
  | [.int .i64 f, .sl 0 0 0 2 n cp], [.rows [.int .i64, .int .i64] rs] => .need (decide (n = rs.length) && decide (1 ≤ n)) (.ite (goodT f (lps rs)) (.leaf ⟨.tup [.ptr 1 0 0 0, .int .i64 0], [none], [.cells [.sl 2 0 0 2 n none, .sl 3 0 0 1 (n + 1) none, .sl 4 0 0 1 n none], .rows [.int .i64, .int .i64] rs, .ints .i64 (f :: offsF f (lps rs)), .ints .i64 (stF f (lps rs))]⟩) (.leaf ⟨.tup [.nilp, .int .i64 160], [none], []⟩))
  | [.int .i64 f, .nils], [] => .ite (goodT f []) (.leaf ⟨.tup [.ptr 0 0 0 0, .int .i64 0], [], [.cells [.nils, .sl 1 0 0 1 1 (some 1), .nils], .ints .i64 [f]]⟩) (.leaf ⟨.tup [.nilp, .int .i64 160], [], []⟩)
  | _, _ => .fail
theorem new_ok : SpecOK P 21 newS := by
  refine specOK_fast newG_ok hm (Λ := loopsOf [(5, nwL)]) Tryd.func21 (by kernel_rfl) (LoopsOK.one (by kernel_rfl) nw_loop) ?_
  intro args bs r h
  unfold newS at h
  split at h
  · rename_i f n cp rs
    rw [den_need, denI, denLf, denLf] at h
    simp only [Bool.and_eq_true, decide_eq_true_eq] at h
    obtain ⟨⟨h1, h2⟩, h⟩ := h
    rw [show (fFn P (specsOf newG) (loopsOf [(5, nwL)]) Tryd.f21 [.int .i64 f, .sl 0 0 0 2 n cp] [.rows lpK rs]).denN = Tree.denN (Tree.ite (decide (f < 0)) (Tree.leaf { v := V.tup [V.nilp, V.int IntKind.i64 160], upd := [none], new := [] }) (Tree.ite (decide (f > 30000)) (Tree.leaf { v := V.tup [V.nilp, V.int IntKind.i64 160], upd := [none], new := [] }) (Tree.ite (decide ((↑n : Int) > 64)) (Tree.leaf { v := V.tup [V.nilp, V.int IntKind.i64 160], upd := [none], new := [] }) (Tree.ite (decide (n = rs.length) && decide (1 ≤ n) && decide (n ≤ 1000000)) (Tree.ite (decide (n = n) && decide (cp = cp) && decide (n = rs.length) && decide ((↑n : Int) = (↑n : Int)) && true && decide (1 ≤ n) && decide (n ≤ 1000000) && decide (0 ≤ f) && decide (f ≤ 30000)) (Tree.ite (decide (pre none (lps rs) = n)) (Tree.leaf { v := V.tup [V.ptr 1 0 0 0, V.int IntKind.i64 0], upd := [none], new := [Body.cells [V.sl 2 0 0 2 n none, V.sl 3 0 0 1 (n + 1) none, V.sl 4 0 0 1 n none], Body.rows [K.int IntKind.i64, K.int IntKind.i64] rs, Body.ints IntKind.i64 (f :: offsF f (lps rs)), Body.ints IntKind.i64 (stF f (lps rs))] }) (Tree.ite (decide (pre none (lps rs) = 0)) (Tree.leaf { v := V.tup [V.nilp, V.int IntKind.i64 160], upd := [none], new := [] }) (Tree.leaf { v := V.tup [V.nilp, V.int IntKind.i64 160], upd := [none], new := [] }))) Tree.fail) Tree.fail)))) from by kernel_rfl]
    simp only [denN_ite, denN_leaf, denN_fail]
    by_cases c1 : f < 0
    · have e : goodT f (lps rs) = false := by simp [goodT]; omega
      rw [e, if_neg (by decide)] at h; cases h
      rw [decide_eq_true c1]; rfl
    by_cases c2 : f > 30000
    · have e : goodT f (lps rs) = false := by simp [goodT]; omega
      rw [e, if_neg (by decide)] at h; cases h
      rw [decide_eq_false c1, decide_eq_true c2]; rfl
    by_cases c3 : (n : Int) > 64
    · have e : goodT f (lps rs) = false := by simp [goodT, lps_len]; omega
      rw [e, if_neg (by decide)] at h; cases h
      rw [decide_eq_false c1, decide_eq_false c2, decide_eq_true c3]; rfl
    rw [decide_eq_false c1, decide_eq_false c2, decide_eq_false c3]
    simp only [decide_eq_true h1, decide_eq_true h2, decide_eq_true (show n ≤ 1000000 by omega), decide_eq_true (show 0 ≤ f by omega), decide_eq_true (show f ≤ 30000 by omega), decide_true]
    by_cases c4 : pre none (lps rs) = n
    · have e : goodT f (lps rs) = true := goodT_iff.2 (by rw [lps_len]; omega)
      rw [e, if_pos rfl] at h; cases h
      rw [decide_eq_true c4]; rfl
    · have e : goodT f (lps rs) = false := by simp [goodT, lps_len]; omega
      rw [e, if_neg (by decide)] at h; cases h
      rw [decide_eq_false c4]
      cases decide (pre none (lps rs) = 0) <;> rfl
  · rename_i f
    rw [denI, denLf, denLf] at h
    rw [show (fFn P (specsOf newG) (loopsOf [(5, nwL)]) Tryd.f21 [.int .i64 f, .nils] []).denN = Tree.denN (Tree.ite (decide (f < 0)) (Tree.leaf { v := V.tup [V.nilp, V.int IntKind.i64 160], upd := [], new := [] }) (Tree.ite (decide (f > 30000)) (Tree.leaf { v := V.tup [V.nilp, V.int IntKind.i64 160], upd := [], new := [] }) (Tree.leaf { v := V.tup [V.ptr 0 0 0 0, V.int IntKind.i64 0], upd := [], new := [Body.cells [V.nils, V.sl 1 0 0 1 1 (some 1), V.nils], Body.ints IntKind.i64 [f]] }))) from by kernel_rfl]
    simp only [denN_ite, denN_leaf, denN_fail]
    by_cases c1 : f < 0
    · have e : goodT f [] = false := by simp [goodT]; omega
      rw [e, if_neg (by decide)] at h; cases h
      rw [decide_eq_true c1]; rfl
    by_cases c2 : f > 30000
    · have e : goodT f [] = false := by simp [goodT]; omega
      rw [e, if_neg (by decide)] at h; cases h
      rw [decide_eq_false c1, decide_eq_true c2]; rfl
    have e : goodT f [] = true := goodT_iff.2 ⟨by omega, by omega, by simp, rfl⟩
    rw [e, if_pos rfl] at h; cases h
    rw [decide_eq_false c1, decide_eq_false c2]; rfl
  · simp [den_fail] at h
abbrev hpG : List (Nat × Rx.Spec) := [kpE, (53, cntS)]
theorem hpG_ok : GammaOK P hpG := .cons keep_ok (.cons cnt_ok (.nil P))
def hpS : Rx.Spec := fun a b => match a with
  | [.ptr 0 0 0 0, .int .i64 t] => onT b fun f ls u => .leaf ⟨.tup [.int .i64 (lead t (stF f ls)), .bool (secB f ls t)], u, []⟩
  | _ => .fail
theorem hp_ok : SpecOK P 33 hpS := by
  refine specOK_fast hpG_ok hm (Λ := loopsOf []) Tryd.func33 (by kernel_rfl) (LoopsOK.nil (by kernel_rfl)) ?_
  intro args bs r h
  unfold hpS at h
  split at h
  · rename_i t
    rcases onT_den h with ⟨f, rs, rfl, hg, h1, hk⟩ | ⟨f, rfl, hg, hk⟩
    · rw [denLf] at hk; cases hk
      rw [show (fFn P (specsOf hpG) (loopsOf []) Tryd.f33 [.ptr 0 0 0 0, .int .i64 t] (tabA f rs)).denN = Tree.denN (Tree.ite (decide (rs.length = (stF f (lps rs)).length) && decide (rs.length ≤ 1000000)) (Tree.ite (decide ((↑(lead t (stF f (lps rs))) : Int) > 0)) (Tree.ite (decide (0 ≤ IntKind.i64.wrap ((↑(lead t (stF f (lps rs))) : Int) - 1)) && decide (IntKind.i64.wrap ((↑(lead t (stF f (lps rs))) : Int) - 1) < (↑rs.length : Int))) (Tree.ite (decide (0 + (IntKind.i64.wrap ((↑(lead t (stF f (lps rs))) : Int) - 1)).toNat < rs.length)) (Tree.ite (decide ((V.toInt ((rs.getD (0 + (IntKind.i64.wrap ((↑(lead t (stF f (lps rs))) : Int) - 1)).toNat) []).getD 1 V.any)) > 0)) (Tree.ite (decide (0 ≤ IntKind.i64.wrap ((↑(lead t (stF f (lps rs))) : Int) - 1)) && decide (IntKind.i64.wrap ((↑(lead t (stF f (lps rs))) : Int) - 1) < (↑rs.length : Int))) (Tree.ite (decide (0 + (IntKind.i64.wrap ((↑(lead t (stF f (lps rs))) : Int) - 1)).toNat + 1 ≤ (stF f (lps rs)).length)) (Tree.leaf { v := V.tup [V.int IntKind.i64 (↑(lead t (stF f (lps rs))) : Int), V.bool ((stF f (lps rs)).getD (0 + (IntKind.i64.wrap ((↑(lead t (stF f (lps rs))) : Int) - 1)).toNat + 0) 0 == t)], upd := [none, none, none, none], new := [] }) Tree.fail) Tree.fail) (Tree.leaf { v := V.tup [V.int IntKind.i64 (↑(lead t (stF f (lps rs))) : Int), V.fls], upd := [none, none, none, none], new := [] })) Tree.fail) Tree.fail) (Tree.leaf { v := V.tup [V.int IntKind.i64 (↑(lead t (stF f (lps rs))) : Int), V.fls], upd := [none, none, none, none], new := [] })) Tree.fail) from by kernel_rfl]
      simp only [denN_ite, denN_leaf, denN_fail]
      obtain ⟨g1, g2, g3, g4⟩ := goodT_iff.1 hg
      have hl := lead_le t (stF f (lps rs))
      rw [st_len, lps_len] at hl
      rw [lps_len] at g3
      have hsl : (stF f (lps rs)).length = rs.length := by rw [st_len, lps_len]
      rw [hsl]
      simp only [decide_true, decide_eq_true (show rs.length ≤ 1000000 by omega)]
      unfold secB
      rw [lps_get]
      by_cases hc : 0 < lead t (stF f (lps rs))
      · have w : IntKind.i64.wrap ((lead t (stF f (lps rs)) : Int) - 1) = ((lead t (stF f (lps rs)) - 1 : Nat) : Int) := by rw [wrap64_id (by omega) (by omega)]; omega
        simp only [w, Nat.zero_add, Int.toNat_natCast, Nat.add_zero, lpOf]
        rw [decide_eq_true (show (lead t (stF f (lps rs)) : Int) > 0 by omega), decide_eq_true hc, decide_eq_true (show (0 : Int) ≤ ((lead t (stF f (lps rs)) - 1 : Nat) : Int) by omega), decide_eq_true (show ((lead t (stF f (lps rs)) - 1 : Nat) : Int) < (rs.length : Int) by omega),
          decide_eq_true (show lead t (stF f (lps rs)) - 1 < rs.length by omega), decide_eq_true (show lead t (stF f (lps rs)) - 1 + 1 ≤ rs.length by omega)]
        by_cases hs : V.toInt ((rs.getD (lead t (stF f (lps rs)) - 1) []).getD 1 V.any) > 0
        · simp only [eq_true hs, decide_true]; rfl
        · simp only [eq_false hs, decide_false]; rfl
      · rw [decide_eq_false (show ¬ (lead t (stF f (lps rs)) : Int) > 0 by omega), decide_eq_false hc]; rfl
    · rw [denLf] at hk; cases hk
      rw [show (fFn P (specsOf hpG) (loopsOf []) Tryd.f33 [.ptr 0 0 0 0, .int .i64 t] (tabN f)).denN = Tree.denN (Tree.leaf { v := V.tup [V.int IntKind.i64 0, V.fls], upd := [none, none], new := [] }) from by kernel_rfl]
      rfl
  · simp [den_fail] at h
abbrev ofsG : List (Nat × Rx.Spec) := [kpE, (33, hpS)]
theorem ofsG_ok : GammaOK P ofsG := .cons keep_ok (.cons hp_ok (.nil P))
def offS : Rx.Spec := fun a b => match a with
  | [.ptr 0 0 0 0, .int .i64 t] => onT b fun f ls u => .leaf ⟨.int .i64 (lookF f ls t).1, u, []⟩
  | _ => .fail
theorem off_ok : SpecOK P 18 offS := by
  refine specOK_fast ofsG_ok hm (Λ := loopsOf []) Tryd.func18 (by kernel_rfl) (LoopsOK.nil (by kernel_rfl)) ?_
  intro args bs r h
  unfold offS at h
  split at h
  · rename_i t
    rcases onT_den h with ⟨f, rs, rfl, hg, h1, hk⟩ | ⟨f, rfl, hg, hk⟩
    · rw [denLf] at hk; cases hk
      rw [show (fFn P (specsOf ofsG) (loopsOf []) Tryd.f18 [.ptr 0 0 0 0, .int .i64 t] (tabA f rs)).denN = Tree.denN (Tree.ite (okTA rs.length (rs.length + 1) rs.length f rs (offsF f (lps rs)) (stF f (lps rs))) (Tree.ite (secB f (lps rs) t) (Tree.ite (decide (0 ≤ IntKind.i64.wrap ((↑(lead t (stF f (lps rs))) : Int) - 1)) && decide (IntKind.i64.wrap ((↑(lead t (stF f (lps rs))) : Int) - 1) < (↑(rs.length + 1) : Int))) (Tree.ite (decide (0 + (IntKind.i64.wrap ((↑(lead t (stF f (lps rs))) : Int) - 1)).toNat + 1 ≤ (f :: offsF f (lps rs)).length)) (Tree.leaf { v := V.int IntKind.i64 ((f :: offsF f (lps rs)).getD (0 + (IntKind.i64.wrap ((↑(lead t (stF f (lps rs))) : Int) - 1)).toNat + 0) 0), upd := [none, none, none, none], new := [] }) Tree.fail) Tree.fail) (Tree.ite (true && decide ((↑(lead t (stF f (lps rs))) : Int) < (↑(rs.length + 1) : Int))) (Tree.ite (decide (0 + (↑(lead t (stF f (lps rs))) : Int).toNat + 1 ≤ (f :: offsF f (lps rs)).length)) (Tree.leaf { v := V.int IntKind.i64 ((f :: offsF f (lps rs)).getD (0 + (↑(lead t (stF f (lps rs))) : Int).toNat + 0) 0), upd := [none, none, none, none], new := [] }) Tree.fail) Tree.fail)) Tree.fail) from by kernel_rfl]
      simp only [denN_ite, denN_leaf, denN_fail, okTA_of hg h1]
      obtain ⟨g1, g2, g3, g4⟩ := goodT_iff.1 hg
      have hl := lead_le t (stF f (lps rs))
      rw [st_len, lps_len] at hl
      rw [lps_len] at g3
      have ho : (f :: offsF f (lps rs)).length = rs.length + 1 := by simp [offs_len, lps_len]
      rw [ho, (look_hap t (lps rs) none f g4).2]
      cases hb : secB f (lps rs) t with
      | true =>
        have hc : 0 < lead t (stF f (lps rs)) := by simp only [secB, Bool.and_eq_true, decide_eq_true_eq] at hb; exact hb.1.1
        have w : IntKind.i64.wrap ((lead t (stF f (lps rs)) : Int) - 1) = ((lead t (stF f (lps rs)) - 1 : Nat) : Int) := by rw [wrap64_id (by omega) (by omega)]; omega
        simp only [w, Nat.zero_add, Int.toNat_natCast, Nat.add_zero]
        rw [decide_eq_true (show (0 : Int) ≤ ((lead t (stF f (lps rs)) - 1 : Nat) : Int) by omega), decide_eq_true (show ((lead t (stF f (lps rs)) - 1 : Nat) : Int) < ((rs.length + 1 : Nat) : Int) by omega), decide_eq_true (show lead t (stF f (lps rs)) - 1 + 1 ≤ rs.length + 1 by omega)]
        rfl
      | false =>
        simp only [Nat.zero_add, Int.toNat_natCast, Nat.add_zero]
        rw [decide_eq_true (show (lead t (stF f (lps rs)) : Int) < ((rs.length + 1 : Nat) : Int) by omega), decide_eq_true (show lead t (stF f (lps rs)) + 1 ≤ rs.length + 1 by omega)]
        rfl
    · rw [denLf] at hk; cases hk
      rw [show (fFn P (specsOf ofsG) (loopsOf []) Tryd.f18 [.ptr 0 0 0 0, .int .i64 t] (tabN f)).denN = Tree.denN (Tree.ite (goodT f []) (Tree.leaf { v := V.int IntKind.i64 ([f].getD 0 0), upd := [none, none], new := [] }) Tree.fail) from by kernel_rfl]
      simp only [denN_ite, denN_leaf, denN_fail, hg]
      rfl
  · simp [den_fail] at h
def labB (f : Int) (ls : List Lp) (t : Int) : Bool := decide (0 ≤ t) && (match (lookF f ls t).2 with | some _ => true | none => ofB (t - (lookF f ls t).1))
def labL (f : Int) (ls : List Lp) (t : Int) : Lab := match (lookF f ls t).2 with | some d => sixL d | none => ofL (t - (lookF f ls t).1)
abbrev lbG : List (Nat × Rx.Spec) := [kpE, (33, hpS), (34, sixS), (22, ofS)]
theorem lbG_ok : GammaOK P lbG := .cons keep_ok (.cons hp_ok (.cons six_ok (.cons of_ok (.nil P))))
def lbS : Rx.Spec := fun a b => match a with
  | [.ptr 0 0 0 0, .int .i64 t] => onT b fun f ls u => .need (decide (t ≤ 9000000000000000000)) (.ite (labB f ls t) (.leaf ⟨.tup [(labL f ls t).v, .bool true], u, []⟩) (.leaf ⟨.tup [Lab.zero.v, .bool false], u, []⟩))
  | _ => .fail
theorem lb_ok : SpecOK P 16 lbS := by
  refine specOK_fast lbG_ok hm (Λ := loopsOf []) Tryd.func16 (by kernel_rfl) (LoopsOK.nil (by kernel_rfl)) ?_
  intro args bs r h
  unfold lbS at h
  split at h
  · rename_i t
    rcases onT_den h with ⟨f, rs, rfl, hg, h1, hk⟩ | ⟨f, rfl, hg, hk⟩
    · rw [den_need, denI, denLf, denLf] at hk
      obtain ⟨ht, hk⟩ := hk
      simp only [decide_eq_true_eq] at ht
      rw [show (fFn P (specsOf lbG) (loopsOf []) Tryd.f16 [.ptr 0 0 0 0, .int .i64 t] (tabA f rs)).denN = Tree.denN (Tree.ite (okTA rs.length (rs.length + 1) rs.length f rs (offsF f (lps rs)) (stF f (lps rs))) (Tree.ite (decide (t < 0)) (Tree.leaf { v := V.tup [V.agg [V.int IntKind.i64 0, V.int IntKind.i64 0, V.int IntKind.i64 0, V.int IntKind.i64 0, V.int IntKind.i64 0, V.int IntKind.i64 0], V.fls], upd := [none, none, none, none], new := [] }) (Tree.ite (secB f (lps rs) t) (Tree.ite (decide (0 ≤ IntKind.i64.wrap ((↑(lead t (stF f (lps rs))) : Int) - 1)) && decide (IntKind.i64.wrap ((↑(lead t (stF f (lps rs))) : Int) - 1) < (↑rs.length : Int))) (Tree.ite (decide (0 + (IntKind.i64.wrap ((↑(lead t (stF f (lps rs))) : Int) - 1)).toNat < rs.length)) (Tree.ite (decide ((V.toInt ((rs.getD (0 + (IntKind.i64.wrap ((↑(lead t (stF f (lps rs))) : Int) - 1)).toNat) []).getD 0 V.any)) ≤ 9223372036854775807)) (Tree.ite (dateB (V.toInt ((rs.getD (0 + (IntKind.i64.wrap ((↑(lead t (stF f (lps rs))) : Int) - 1)).toNat) []).getD 0 V.any))) (Tree.leaf { v := V.tup [V.agg [V.int IntKind.i64 (dYear (V.toInt ((rs.getD (0 + (IntKind.i64.wrap ((↑(lead t (stF f (lps rs))) : Int) - 1)).toNat) []).getD 0 V.any))), V.int IntKind.i64 (dMonth (V.toInt ((rs.getD (0 + (IntKind.i64.wrap ((↑(lead t (stF f (lps rs))) : Int) - 1)).toNat) []).getD 0 V.any))), V.int IntKind.i64 (dDay (V.toInt ((rs.getD (0 + (IntKind.i64.wrap ((↑(lead t (stF f (lps rs))) : Int) - 1)).toNat) []).getD 0 V.any))), V.int IntKind.i64 23, V.int IntKind.i64 59, V.int IntKind.i64 60], V.bool true], upd := [none, none, none, none], new := [] }) (Tree.leaf { v := V.tup [V.agg [V.int IntKind.i64 0, V.int IntKind.i64 0, V.int IntKind.i64 0, V.int IntKind.i64 0, V.int IntKind.i64 0, V.int IntKind.i64 0], V.bool false], upd := [none, none, none, none], new := [] })) Tree.fail) Tree.fail) Tree.fail) (Tree.ite (true && decide ((↑(lead t (stF f (lps rs))) : Int) < (↑(rs.length + 1) : Int))) (Tree.ite (decide (0 + (↑(lead t (stF f (lps rs))) : Int).toNat + 1 ≤ (f :: offsF f (lps rs)).length)) (Tree.ite (decide (IntKind.i64.wrap (t - (f :: offsF f (lps rs)).getD (0 + (↑(lead t (stF f (lps rs))) : Int).toNat + 0) 0) ≤ 9223372036854775807)) (Tree.ite (ofB (IntKind.i64.wrap (t - (f :: offsF f (lps rs)).getD (0 + (↑(lead t (stF f (lps rs))) : Int).toNat + 0) 0))) (Tree.leaf { v := V.tup [V.agg [V.int IntKind.i64 (dYear (IntKind.i64.wrap (t - (f :: offsF f (lps rs)).getD (0 + (↑(lead t (stF f (lps rs))) : Int).toNat + 0) 0) / 86400)), V.int IntKind.i64 (dMonth (IntKind.i64.wrap (t - (f :: offsF f (lps rs)).getD (0 + (↑(lead t (stF f (lps rs))) : Int).toNat + 0) 0) / 86400)), V.int IntKind.i64 (dDay (IntKind.i64.wrap (t - (f :: offsF f (lps rs)).getD (0 + (↑(lead t (stF f (lps rs))) : Int).toNat + 0) 0) / 86400)), V.int IntKind.i64 (IntKind.i64.wrap (t - (f :: offsF f (lps rs)).getD (0 + (↑(lead t (stF f (lps rs))) : Int).toNat + 0) 0) % 86400 / 3600), V.int IntKind.i64 (IntKind.i64.wrap (t - (f :: offsF f (lps rs)).getD (0 + (↑(lead t (stF f (lps rs))) : Int).toNat + 0) 0) % 3600 / 60), V.int IntKind.i64 (IntKind.i64.wrap (t - (f :: offsF f (lps rs)).getD (0 + (↑(lead t (stF f (lps rs))) : Int).toNat + 0) 0) % 60)], V.bool true], upd := [none, none, none, none], new := [] }) (Tree.leaf { v := V.tup [V.agg [V.int IntKind.i64 0, V.int IntKind.i64 0, V.int IntKind.i64 0, V.int IntKind.i64 0, V.int IntKind.i64 0, V.int IntKind.i64 0], V.bool false], upd := [none, none, none, none], new := [] })) Tree.fail) Tree.fail) Tree.fail))) Tree.fail) from by kernel_rfl]
      simp only [denN_ite, denN_leaf, denN_fail, okTA_of hg h1]
      obtain ⟨g1, g2, g3, g4⟩ := goodT_iff.1 hg
      have hl := lead_le t (stF f (lps rs))
      rw [st_len, lps_len] at hl
      rw [lps_len] at g3
      have ho : (f :: offsF f (lps rs)).length = rs.length + 1 := by simp [offs_len, lps_len]
      by_cases h0 : t < 0
      · have e : labB f (lps rs) t = false := by unfold labB; rw [decide_eq_false (by omega)]; rfl
        rw [e, if_neg (by decide)] at hk; cases hk
        rw [decide_eq_true h0]; rfl
      have hlk := look_hap t (lps rs) none f g4
      have hbd := look_bd t (lps rs) f
      rw [lps_len] at hbd
      rw [decide_eq_false h0]
      cases hb : secB f (lps rs) t with
      | true =>
        rw [hb, if_pos rfl, lps_get] at hlk
        have hd := look_day t (lps rs) none f _ g4 hlk.1
        have hc : 0 < lead t (stF f (lps rs)) := by simp only [secB, Bool.and_eq_true, decide_eq_true_eq] at hb; exact hb.1.1
        have w : IntKind.i64.wrap ((lead t (stF f (lps rs)) : Int) - 1) = ((lead t (stF f (lps rs)) - 1 : Nat) : Int) := by rw [wrap64_id (by omega) (by omega)]; omega
        have e : labB f (lps rs) t = true := by unfold labB; rw [hlk.1, decide_eq_true (by omega)]; rfl
        have e2 : labL f (lps rs) t = sixL (lpOf (rs.getD (lead t (stF f (lps rs)) - 1) [])).day := by unfold labL; rw [hlk.1]
        rw [e, e2, if_pos rfl] at hk; cases hk
        simp only [w, Nat.zero_add, Int.toNat_natCast, Nat.add_zero]
        change 1 ≤ V.toInt ((rs.getD (lead t (stF f (lps rs)) - 1) []).getD 0 V.any) ∧ V.toInt ((rs.getD (lead t (stF f (lps rs)) - 1) []).getD 0 V.any) ≤ 2932895 at hd
        have ed : dateB (V.toInt ((rs.getD (lead t (stF f (lps rs)) - 1) []).getD 0 V.any)) = true := by unfold dateB; rw [decide_eq_true (by omega), decide_eq_true (by omega)]; rfl
        rw [decide_eq_true (show (0 : Int) ≤ ((lead t (stF f (lps rs)) - 1 : Nat) : Int) by omega), decide_eq_true (show ((lead t (stF f (lps rs)) - 1 : Nat) : Int) < (rs.length : Int) by omega), decide_eq_true (show lead t (stF f (lps rs)) - 1 < rs.length by omega),
          decide_eq_true (show V.toInt ((rs.getD (lead t (stF f (lps rs)) - 1) []).getD 0 V.any) ≤ 9223372036854775807 by omega), ed]
        rfl
      | false =>
        rw [hb, if_neg (by decide), if_neg (by decide)] at hlk
        rw [ho]
        simp only [Nat.zero_add, Int.toNat_natCast, Nat.add_zero]
        rw [← hlk.2]
        rw [wrap64_id (n := t - (lookF f (lps rs) t).1) (by omega) (by omega)]
        have e : labB f (lps rs) t = ofB (t - (lookF f (lps rs) t).1) := by unfold labB; rw [hlk.1, decide_eq_true (by omega)]; rfl
        have e2 : labL f (lps rs) t = ofL (t - (lookF f (lps rs) t).1) := by unfold labL; rw [hlk.1]
        rw [e, e2] at hk
        rw [decide_eq_true (show (lead t (stF f (lps rs)) : Int) < ((rs.length + 1 : Nat) : Int) by omega), decide_eq_true (show lead t (stF f (lps rs)) + 1 ≤ rs.length + 1 by omega), decide_eq_true (show t - (lookF f (lps rs) t).1 ≤ 9223372036854775807 by omega)]
        cases ho : ofB (t - (lookF f (lps rs) t).1) <;> rw [ho] at hk <;> cases hk <;> rfl
    · rw [den_need, denI, denLf, denLf] at hk
      obtain ⟨ht, hk⟩ := hk
      simp only [decide_eq_true_eq] at ht
      obtain ⟨g1, g2, g3, g4⟩ := goodT_iff.1 hg
      rw [show (fFn P (specsOf lbG) (loopsOf []) Tryd.f16 [.ptr 0 0 0 0, .int .i64 t] (tabN f)).denN = Tree.denN (Tree.ite (goodT f []) (Tree.ite (decide (t < 0)) (Tree.leaf { v := V.tup [V.agg [V.int IntKind.i64 0, V.int IntKind.i64 0, V.int IntKind.i64 0, V.int IntKind.i64 0, V.int IntKind.i64 0, V.int IntKind.i64 0], V.fls], upd := [none, none], new := [] }) (Tree.ite (decide (IntKind.i64.wrap (t - [f].getD 0 0) ≤ 9223372036854775807)) (Tree.ite (ofB (IntKind.i64.wrap (t - [f].getD 0 0))) (Tree.leaf { v := V.tup [V.agg [V.int IntKind.i64 (dYear (IntKind.i64.wrap (t - [f].getD 0 0) / 86400)), V.int IntKind.i64 (dMonth (IntKind.i64.wrap (t - [f].getD 0 0) / 86400)), V.int IntKind.i64 (dDay (IntKind.i64.wrap (t - [f].getD 0 0) / 86400)), V.int IntKind.i64 (IntKind.i64.wrap (t - [f].getD 0 0) % 86400 / 3600), V.int IntKind.i64 (IntKind.i64.wrap (t - [f].getD 0 0) % 3600 / 60), V.int IntKind.i64 (IntKind.i64.wrap (t - [f].getD 0 0) % 60)], V.bool true], upd := [none, none], new := [] }) (Tree.leaf { v := V.tup [V.agg [V.int IntKind.i64 0, V.int IntKind.i64 0, V.int IntKind.i64 0, V.int IntKind.i64 0, V.int IntKind.i64 0, V.int IntKind.i64 0], V.bool false], upd := [none, none], new := [] })) Tree.fail)) Tree.fail) from by kernel_rfl]
      simp only [denN_ite, denN_leaf, denN_fail, hg]
      by_cases h0 : t < 0
      · have e : labB f [] t = false := by unfold labB; rw [decide_eq_false (by omega)]; rfl
        rw [e, if_neg (by decide)] at hk; cases hk
        rw [decide_eq_true h0]; rfl
      rw [decide_eq_false h0]
      have e3 : ([f].getD 0 0) = f := rfl
      rw [e3, wrap64_id (n := t - f) (by omega) (by omega)]
      have e : labB f [] t = ofB (t - f) := by unfold labB; rw [decide_eq_true (by omega)]; rfl
      have e2 : labL f [] t = ofL (t - f) := rfl
      rw [e, e2] at hk
      rw [decide_eq_true (show t - f ≤ 9223372036854775807 by omega)]
      cases ho : ofB (t - f) <;> rw [ho] at hk <;> cases hk <;> rfl
  · simp [den_fail] at h
end Go.Proofs.YtbfiaogmfjadeaaDoor
