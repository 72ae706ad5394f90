/- Layer 15: the laws as functions. The conditions stand in the specifications; the rows meet them. -/
import Derived.Test.YtioplplpiaalhaaDoorCvB
set_option linter.unusedSimpArgs false
set_option linter.unusedVariables false
set_option linter.unnecessarySimpa false
set_option linter.unusedSectionVars false
set_option maxRecDepth 100000
set_option linter.unusedSimpArgs false
set_option linter.unusedVariables false
namespace Go.Proofs.YtioplplpiaalhaaDoor
open Go.Rx

def trueS : Rx.Spec := fun a b => match a, b with
  | [], [] => .leaf ⟨.bool true, [], []⟩
  | _, _ => .fail
abbrev alG : List (Nat × Rx.Spec) := [(11, dayS), (13, dateS), (20, ofS), (28, textS), (16, leapS), (18, longS)]
theorem alG_ok : GammaOK P alG := .cons day_ok (.cons date_ok (.cons of_ok (.cons text_ok (.cons leap_ok (.cons long_ok (.nil P))))))
theorem alive_ok : SpecOK P 15 trueS := by
  refine specOK_fast alG_ok hm (Λ := loopsOf []) Tryd.func15 (by kernel_rfl) (LoopsOK.nil (by kernel_rfl)) ?_
  intro args bs r h
  unfold trueS at h
  split at h
  · rw [denLf] at h; cases h
    rw [show (fFn P (specsOf alG) (loopsOf []) Tryd.f15 [] []).denN = Tree.denN (Tree.leaf { v := V.bool true, upd := [], new := [] }) from by kernel_rfl]
    rfl
  · simp [den_fail] at h
def inI (n : Int) : Bool := decide (-9223372036854775808 ≤ n) && decide (n ≤ 9223372036854775807)
abbrev daG : List (Nat × Rx.Spec) := [(11, dayS), (12, dayS), (13, dateS), (14, refDateS), (16, leapS), (17, leapS), (18, longS), (19, longS), (15, trueS)]
theorem daG_ok : GammaOK P daG := .cons day_ok (.cons refDay_ok (.cons date_ok (.cons refDate_ok (.cons leap_ok (.cons refLeap_ok (.cons long_ok (.cons refLong_ok (.cons alive_ok (.nil P)))))))))
def lwDaysS : Rx.Spec := fun a b => match a, b with
  | [.int .i64 y, .int .i64 m, .int .i64 d], [] => .need (inI y && inI m && inI d) (.leaf ⟨.bool true, [], []⟩)
  | _, _ => .fail
theorem lwDays_ok : SpecOK P 3 lwDaysS := by
  refine specOK_fast daG_ok hm (Λ := loopsOf []) Tryd.func3 (by kernel_rfl) (LoopsOK.nil (by kernel_rfl)) ?_
  intro args bs r h
  unfold lwDaysS at h
  split at h
  · rename_i y m d
    rw [den_need, denLf] at h
    obtain ⟨hn, h⟩ := h; cases h
    rw [show (fFn P (specsOf daG) (loopsOf []) Tryd.f3 [.int .i64 y, .int .i64 m, .int .i64 d] []).denN = Tree.denN (Tree.ite (dayB y m d) (Tree.ite (dayB y m d) (Tree.ite (dateB d) (Tree.ite (decide (d ≤ 9223372036854775807)) (Tree.ite (dateB d) (Tree.ite (dayZ y m d == dayZ y m d) (Tree.ite (dYear d == dYear d) (Tree.ite (dMonth d == dMonth d) (Tree.ite (dDay d == dDay d) (Tree.ite (leapZ y == leapZ y) (Tree.leaf { v := V.bool (longZ y m == longZ y m), upd := [], new := [] }) (Tree.leaf { v := V.fls, upd := [], new := [] })) (Tree.leaf { v := V.fls, upd := [], new := [] })) (Tree.leaf { v := V.fls, upd := [], new := [] })) (Tree.leaf { v := V.fls, upd := [], new := [] })) (Tree.leaf { v := V.fls, upd := [], new := [] })) (Tree.ite (dayZ y m d == dayZ y m d) (Tree.ite (dYear d == 0) (Tree.ite (dMonth d == 0) (Tree.ite (dDay d == 0) (Tree.leaf { v := V.fls, upd := [], new := [] }) (Tree.leaf { v := V.fls, upd := [], new := [] })) (Tree.leaf { v := V.fls, upd := [], new := [] })) (Tree.leaf { v := V.fls, upd := [], new := [] })) (Tree.leaf { v := V.fls, upd := [], new := [] }))) Tree.fail) (Tree.ite (decide (d ≤ 9223372036854775807)) (Tree.ite (dateB d) (Tree.ite (dayZ y m d == dayZ y m d) (Tree.ite (0 == dYear d) (Tree.ite (0 == dMonth d) (Tree.ite (0 == dDay d) (Tree.leaf { v := V.fls, upd := [], new := [] }) (Tree.leaf { v := V.fls, upd := [], new := [] })) (Tree.leaf { v := V.fls, upd := [], new := [] })) (Tree.leaf { v := V.fls, upd := [], new := [] })) (Tree.leaf { v := V.fls, upd := [], new := [] })) (Tree.ite (dayZ y m d == dayZ y m d) (Tree.ite (leapZ y == leapZ y) (Tree.leaf { v := V.bool (longZ y m == longZ y m), upd := [], new := [] }) (Tree.leaf { v := V.fls, upd := [], new := [] })) (Tree.leaf { v := V.fls, upd := [], new := [] }))) Tree.fail)) (Tree.ite (dateB d) (Tree.ite (decide (d ≤ 9223372036854775807)) (Tree.ite (dateB d) (Tree.ite (dayZ y m d == 0) (Tree.leaf { v := V.fls, upd := [], new := [] }) (Tree.leaf { v := V.fls, upd := [], new := [] })) (Tree.ite (dayZ y m d == 0) (Tree.leaf { v := V.fls, upd := [], new := [] }) (Tree.leaf { v := V.fls, upd := [], new := [] }))) Tree.fail) (Tree.ite (decide (d ≤ 9223372036854775807)) (Tree.ite (dateB d) (Tree.ite (dayZ y m d == 0) (Tree.leaf { v := V.fls, upd := [], new := [] }) (Tree.leaf { v := V.fls, upd := [], new := [] })) (Tree.ite (dayZ y m d == 0) (Tree.leaf { v := V.fls, upd := [], new := [] }) (Tree.leaf { v := V.fls, upd := [], new := [] }))) Tree.fail))) (Tree.ite (dayB y m d) (Tree.ite (dateB d) (Tree.ite (decide (d ≤ 9223372036854775807)) (Tree.ite (dateB d) (Tree.ite (0 == dayZ y m d) (Tree.leaf { v := V.fls, upd := [], new := [] }) (Tree.leaf { v := V.fls, upd := [], new := [] })) (Tree.ite (0 == dayZ y m d) (Tree.leaf { v := V.fls, upd := [], new := [] }) (Tree.leaf { v := V.fls, upd := [], new := [] }))) Tree.fail) (Tree.ite (decide (d ≤ 9223372036854775807)) (Tree.ite (dateB d) (Tree.ite (0 == dayZ y m d) (Tree.leaf { v := V.fls, upd := [], new := [] }) (Tree.leaf { v := V.fls, upd := [], new := [] })) (Tree.ite (0 == dayZ y m d) (Tree.leaf { v := V.fls, upd := [], new := [] }) (Tree.leaf { v := V.fls, upd := [], new := [] }))) Tree.fail)) (Tree.ite (dateB d) (Tree.ite (decide (d ≤ 9223372036854775807)) (Tree.ite (dateB d) (Tree.ite (dYear d == dYear d) (Tree.ite (dMonth d == dMonth d) (Tree.ite (dDay d == dDay d) (Tree.ite (leapZ y == leapZ y) (Tree.leaf { v := V.bool (longZ y m == longZ y m), upd := [], new := [] }) (Tree.leaf { v := V.fls, upd := [], new := [] })) (Tree.leaf { v := V.fls, upd := [], new := [] })) (Tree.leaf { v := V.fls, upd := [], new := [] })) (Tree.leaf { v := V.fls, upd := [], new := [] })) (Tree.ite (dYear d == 0) (Tree.ite (dMonth d == 0) (Tree.ite (dDay d == 0) (Tree.leaf { v := V.fls, upd := [], new := [] }) (Tree.leaf { v := V.fls, upd := [], new := [] })) (Tree.leaf { v := V.fls, upd := [], new := [] })) (Tree.leaf { v := V.fls, upd := [], new := [] }))) Tree.fail) (Tree.ite (decide (d ≤ 9223372036854775807)) (Tree.ite (dateB d) (Tree.ite (0 == dYear d) (Tree.ite (0 == dMonth d) (Tree.ite (0 == dDay d) (Tree.leaf { v := V.fls, upd := [], new := [] }) (Tree.leaf { v := V.fls, upd := [], new := [] })) (Tree.leaf { v := V.fls, upd := [], new := [] })) (Tree.leaf { v := V.fls, upd := [], new := [] })) (Tree.ite (leapZ y == leapZ y) (Tree.leaf { v := V.bool (longZ y m == longZ y m), upd := [], new := [] }) (Tree.leaf { v := V.fls, upd := [], new := [] }))) Tree.fail)))) from by kernel_rfl]
    simp only [denN_ite, denN_leaf, denN_fail, beq_self_eq_true, if_true]
    have hd : decide (d ≤ 9223372036854775807) = true := by simp only [inI, Bool.and_eq_true] at hn; exact hn.2.2
    simp only [hd, if_true]
    cases dayB y m d <;> cases dateB d <;> rfl
  · simp [den_fail] at h
abbrev lbG : List (Nat × Rx.Spec) := [(20, ofS), (21, ofS), (22, secS), (23, secS), (24, rightS), (25, rightS), (26, lessS), (27, lessS), (15, trueS)]
theorem lbG_ok : GammaOK P lbG := .cons of_ok (.cons refOf_ok (.cons sec_ok (.cons refSec_ok (.cons right_ok (.cons refRight_ok (.cons less_ok (.cons refLess_ok (.cons alive_ok (.nil P)))))))))
def lwLabelsS : Rx.Spec := fun a b => match a, b with
  | [.int .i64 s, u, v], [] => match Lab.of u, Lab.of v with
    | some l, some m => .need (inI s) (.leaf ⟨.bool true, [], []⟩)
    | _, _ => .fail
  | _, _ => .fail
theorem lwLabels_ok : SpecOK P 7 lwLabelsS := by
  refine specOK_fast lbG_ok hm (Λ := loopsOf []) Tryd.func7 (by kernel_rfl) (LoopsOK.nil (by kernel_rfl)) ?_
  intro args bs r h
  unfold lwLabelsS at h
  split at h
  · split at h
    · rename_i s u v _ _ l m hl hm'
      rw [Lab.of_eq hl, Lab.of_eq hm']
      rw [den_need, denLf] at h
      obtain ⟨hn, h⟩ := h; cases h
      rw [show (fFn P (specsOf lbG) (loopsOf []) Tryd.f7 [.int .i64 s, l.v, m.v] []).denN = Tree.denN (Tree.ite (decide (s ≤ 9223372036854775807)) (Tree.ite (ofB s) (Tree.ite (decide (s ≤ 9223372036854775807)) (Tree.ite (ofB s) (Tree.ite (rightZ l) (Tree.ite (rightZ l) (Tree.ite (dYear (s / 86400) == dYear (s / 86400) && (dMonth (s / 86400) == dMonth (s / 86400) && (dDay (s / 86400) == dDay (s / 86400) && (s % 86400 / 3600 == s % 86400 / 3600 && (s % 3600 / 60 == s % 3600 / 60 && (s % 60 == s % 60 && true)))))) (Tree.ite (secZ l == secZ l) (Tree.ite (rightZ l == rightZ l) (Tree.leaf { v := V.bool (lessZ l m == lessZ l m), upd := [], new := [] }) (Tree.leaf { v := V.fls, upd := [], new := [] })) (Tree.leaf { v := V.fls, upd := [], new := [] })) (Tree.leaf { v := V.fls, upd := [], new := [] })) (Tree.ite (dYear (s / 86400) == dYear (s / 86400) && (dMonth (s / 86400) == dMonth (s / 86400) && (dDay (s / 86400) == dDay (s / 86400) && (s % 86400 / 3600 == s % 86400 / 3600 && (s % 3600 / 60 == s % 3600 / 60 && (s % 60 == s % 60 && true)))))) (Tree.ite (secZ l == 0) (Tree.leaf { v := V.fls, upd := [], new := [] }) (Tree.leaf { v := V.fls, upd := [], new := [] })) (Tree.leaf { v := V.fls, upd := [], new := [] }))) (Tree.ite (rightZ l) (Tree.ite (dYear (s / 86400) == dYear (s / 86400) && (dMonth (s / 86400) == dMonth (s / 86400) && (dDay (s / 86400) == dDay (s / 86400) && (s % 86400 / 3600 == s % 86400 / 3600 && (s % 3600 / 60 == s % 3600 / 60 && (s % 60 == s % 60 && true)))))) (Tree.ite (0 == secZ l) (Tree.leaf { v := V.fls, upd := [], new := [] }) (Tree.leaf { v := V.fls, upd := [], new := [] })) (Tree.leaf { v := V.fls, upd := [], new := [] })) (Tree.ite (dYear (s / 86400) == dYear (s / 86400) && (dMonth (s / 86400) == dMonth (s / 86400) && (dDay (s / 86400) == dDay (s / 86400) && (s % 86400 / 3600 == s % 86400 / 3600 && (s % 3600 / 60 == s % 3600 / 60 && (s % 60 == s % 60 && true)))))) (Tree.ite (rightZ l == rightZ l) (Tree.leaf { v := V.bool (lessZ l m == lessZ l m), upd := [], new := [] }) (Tree.leaf { v := V.fls, upd := [], new := [] })) (Tree.leaf { v := V.fls, upd := [], new := [] })))) (Tree.ite (rightZ l) (Tree.ite (rightZ l) (Tree.ite (dYear (s / 86400) == 0 && (dMonth (s / 86400) == 0 && (dDay (s / 86400) == 0 && (s % 86400 / 3600 == 0 && (s % 3600 / 60 == 0 && (s % 60 == 0 && true)))))) (Tree.leaf { v := V.fls, upd := [], new := [] }) (Tree.leaf { v := V.fls, upd := [], new := [] })) (Tree.ite (dYear (s / 86400) == 0 && (dMonth (s / 86400) == 0 && (dDay (s / 86400) == 0 && (s % 86400 / 3600 == 0 && (s % 3600 / 60 == 0 && (s % 60 == 0 && true)))))) (Tree.leaf { v := V.fls, upd := [], new := [] }) (Tree.leaf { v := V.fls, upd := [], new := [] }))) (Tree.ite (rightZ l) (Tree.ite (dYear (s / 86400) == 0 && (dMonth (s / 86400) == 0 && (dDay (s / 86400) == 0 && (s % 86400 / 3600 == 0 && (s % 3600 / 60 == 0 && (s % 60 == 0 && true)))))) (Tree.leaf { v := V.fls, upd := [], new := [] }) (Tree.leaf { v := V.fls, upd := [], new := [] })) (Tree.ite (dYear (s / 86400) == 0 && (dMonth (s / 86400) == 0 && (dDay (s / 86400) == 0 && (s % 86400 / 3600 == 0 && (s % 3600 / 60 == 0 && (s % 60 == 0 && true)))))) (Tree.leaf { v := V.fls, upd := [], new := [] }) (Tree.leaf { v := V.fls, upd := [], new := [] }))))) Tree.fail) (Tree.ite (decide (s ≤ 9223372036854775807)) (Tree.ite (ofB s) (Tree.ite (rightZ l) (Tree.ite (rightZ l) (Tree.ite (0 == dYear (s / 86400) && (0 == dMonth (s / 86400) && (0 == dDay (s / 86400) && (0 == s % 86400 / 3600 && (0 == s % 3600 / 60 && (0 == s % 60 && true)))))) (Tree.leaf { v := V.fls, upd := [], new := [] }) (Tree.leaf { v := V.fls, upd := [], new := [] })) (Tree.ite (0 == dYear (s / 86400) && (0 == dMonth (s / 86400) && (0 == dDay (s / 86400) && (0 == s % 86400 / 3600 && (0 == s % 3600 / 60 && (0 == s % 60 && true)))))) (Tree.leaf { v := V.fls, upd := [], new := [] }) (Tree.leaf { v := V.fls, upd := [], new := [] }))) (Tree.ite (rightZ l) (Tree.ite (0 == dYear (s / 86400) && (0 == dMonth (s / 86400) && (0 == dDay (s / 86400) && (0 == s % 86400 / 3600 && (0 == s % 3600 / 60 && (0 == s % 60 && true)))))) (Tree.leaf { v := V.fls, upd := [], new := [] }) (Tree.leaf { v := V.fls, upd := [], new := [] })) (Tree.ite (0 == dYear (s / 86400) && (0 == dMonth (s / 86400) && (0 == dDay (s / 86400) && (0 == s % 86400 / 3600 && (0 == s % 3600 / 60 && (0 == s % 60 && true)))))) (Tree.leaf { v := V.fls, upd := [], new := [] }) (Tree.leaf { v := V.fls, upd := [], new := [] })))) (Tree.ite (rightZ l) (Tree.ite (rightZ l) (Tree.ite (secZ l == secZ l) (Tree.ite (rightZ l == rightZ l) (Tree.leaf { v := V.bool (lessZ l m == lessZ l m), upd := [], new := [] }) (Tree.leaf { v := V.fls, upd := [], new := [] })) (Tree.leaf { v := V.fls, upd := [], new := [] })) (Tree.ite (secZ l == 0) (Tree.leaf { v := V.fls, upd := [], new := [] }) (Tree.leaf { v := V.fls, upd := [], new := [] }))) (Tree.ite (rightZ l) (Tree.ite (0 == secZ l) (Tree.leaf { v := V.fls, upd := [], new := [] }) (Tree.leaf { v := V.fls, upd := [], new := [] })) (Tree.ite (rightZ l == rightZ l) (Tree.leaf { v := V.bool (lessZ l m == lessZ l m), upd := [], new := [] }) (Tree.leaf { v := V.fls, upd := [], new := [] }))))) Tree.fail)) Tree.fail) from by kernel_rfl]
      simp only [denN_ite, denN_leaf, denN_fail, beq_self_eq_true, if_true]
      have hd : decide (s ≤ 9223372036854775807) = true := by simp only [inI, Bool.and_eq_true] at hn; exact hn.2
      simp only [hd, if_true]
      cases ofB s <;> cases rightZ l <;> rfl
    · simp [den_fail] at h
  · simp [den_fail] at h
abbrev txG : List (Nat × Rx.Spec) := [(28, textS), (31, textS), (29, readS), (30, readS), (15, trueS)]
theorem txG_ok : GammaOK P txG := .cons text_ok (.cons refText_ok (.cons read_ok (.cons refRead_ok (.cons alive_ok (.nil P)))))
def lwTextsS : Rx.Spec := fun a b => match a, b with
  | [u, .str s], [] => match Lab.of u with
    | some l => .leaf ⟨.bool true, [], []⟩
    | _ => .fail
  | _, _ => .fail
theorem lwTexts_ok : SpecOK P 9 lwTextsS := by
  refine specOK_fast txG_ok hm (Λ := loopsOf []) Tryd.func9 (by kernel_rfl) (LoopsOK.nil (by kernel_rfl)) ?_
  intro args bs r h
  unfold lwTextsS at h
  split at h
  · split at h
    · rename_i u s _ l hl
      rw [Lab.of_eq hl]
      rw [denLf] at h; cases h
      rw [show (fFn P (specsOf txG) (loopsOf []) Tryd.f9 [l.v, .str s] []).denN = Tree.denN (Tree.ite (readB s) (Tree.ite (readB s) (Tree.ite (sEq (bytesOf (textZ l)) (bytesOf (textZ l))) (Tree.ite (numF 0 (piece (numsOf s) 0 4) == numF 0 (piece (numsOf s) 0 4) && (numF 0 (piece (numsOf s) 5 7) == numF 0 (piece (numsOf s) 5 7) && (numF 0 (piece (numsOf s) 8 10) == numF 0 (piece (numsOf s) 8 10) && (numF 0 (piece (numsOf s) 11 13) == numF 0 (piece (numsOf s) 11 13) && (numF 0 (piece (numsOf s) 14 16) == numF 0 (piece (numsOf s) 14 16) && (numF 0 (piece (numsOf s) 17 19) == numF 0 (piece (numsOf s) 17 19) && true)))))) (Tree.leaf { v := V.bool (sEq (bytesOf (textZ { y := numF 0 (piece (numsOf s) 0 4), mo := numF 0 (piece (numsOf s) 5 7), d := numF 0 (piece (numsOf s) 8 10), h := numF 0 (piece (numsOf s) 11 13), mi := numF 0 (piece (numsOf s) 14 16), s := numF 0 (piece (numsOf s) 17 19) })) s), upd := [], new := [] }) (Tree.leaf { v := V.fls, upd := [], new := [] })) (Tree.leaf { v := V.fls, upd := [], new := [] })) (Tree.ite (sEq (bytesOf (textZ l)) (bytesOf (textZ l))) (Tree.ite (numF 0 (piece (numsOf s) 0 4) == 0 && (numF 0 (piece (numsOf s) 5 7) == 0 && (numF 0 (piece (numsOf s) 8 10) == 0 && (numF 0 (piece (numsOf s) 11 13) == 0 && (numF 0 (piece (numsOf s) 14 16) == 0 && (numF 0 (piece (numsOf s) 17 19) == 0 && true)))))) (Tree.leaf { v := V.fls, upd := [], new := [] }) (Tree.leaf { v := V.fls, upd := [], new := [] })) (Tree.leaf { v := V.fls, upd := [], new := [] }))) (Tree.ite (readB s) (Tree.ite (sEq (bytesOf (textZ l)) (bytesOf (textZ l))) (Tree.ite (0 == numF 0 (piece (numsOf s) 0 4) && (0 == numF 0 (piece (numsOf s) 5 7) && (0 == numF 0 (piece (numsOf s) 8 10) && (0 == numF 0 (piece (numsOf s) 11 13) && (0 == numF 0 (piece (numsOf s) 14 16) && (0 == numF 0 (piece (numsOf s) 17 19) && true)))))) (Tree.leaf { v := V.fls, upd := [], new := [] }) (Tree.leaf { v := V.fls, upd := [], new := [] })) (Tree.leaf { v := V.fls, upd := [], new := [] })) (Tree.ite (sEq (bytesOf (textZ l)) (bytesOf (textZ l))) (Tree.leaf { v := V.tru, upd := [], new := [] }) (Tree.leaf { v := V.fls, upd := [], new := [] })))) from by kernel_rfl]
      simp only [denN_ite, denN_leaf, denN_fail, beq_self_eq_true, if_true, sEq_refl]
      cases hq : readB s with
      | false => rfl
      | true =>
        have : sEq (bytesOf (textZ (readL (numsOf s)))) s = true := by unfold readB at hq; simp only [Bool.and_eq_true] at hq; exact hq.2
        simp only [if_true, this]
        rw [if_pos (by decide)]
        exact resB this
    · simp [den_fail] at h
  · simp [den_fail] at h
end Go.Proofs.YtioplplpiaalhaaDoor

set_option maxRecDepth 100000
set_option linter.unusedSimpArgs false
set_option linter.unusedVariables false
namespace Go.Proofs.YtioplplpiaalhaaDoor
open Go.Rx

theorem day_in {y m d : Int} (h : dayB y m d = true) : mdZ y m ≤ dayZ y m d - aheadZ y ∧ dayZ y m d - aheadZ y < mdZ y (m + 1) ∧ aheadZ y ≤ dayZ y m d ∧ dayZ y m d < aheadZ (y + 1) := by
  obtain ⟨d1, d2, d3, d4, d5, d6, d7, d8⟩ := day_mem h
  have hb := mdN_bd y (m - 1).toNat
  rw [show mdN y (m - 1).toNat = mdZ y m from rfl] at hb
  have hmm : mdZ y (m + 1) ≤ mdZ y 13 := by
    by_cases e : m = 12
    · rw [e]; exact Int.le_refl _
    · exact md_mono y d3 (by omega)
  rw [md_year] at hmm
  have hs := ahead_step y (by omega)
  have hk := mdZ_succ y m d3
  unfold dayZ at *
  omega
theorem day_lt_of {y m d y' m' d' : Int} (h : dayB y m d = true) (h' : dayB y' m' d' = true) (hl : y < y' ∨ (y = y' ∧ (m < m' ∨ (m = m' ∧ d < d')))) : dayZ y m d < dayZ y' m' d' := by
  obtain ⟨a1, a2, a3, a4⟩ := day_in h
  obtain ⟨b1, b2, b3, b4⟩ := day_in h'
  rcases hl with hl | ⟨rfl, hl | ⟨rfl, hl⟩⟩
  · have := ahead_mono hl; omega
  · have := md_mono y (day_mem h).2.2.1 hl; omega
  · unfold dayZ; omega
theorem day_lt_iff {y m d y' m' d' : Int} (h : dayB y m d = true) (h' : dayB y' m' d' = true) : (y < y' ∨ (y = y' ∧ (m < m' ∨ (m = m' ∧ d < d')))) ↔ dayZ y m d < dayZ y' m' d' := by
  refine ⟨day_lt_of h h', fun hl => ?_⟩
  by_cases h1 : y' < y ∨ (y' = y ∧ (m' < m ∨ (m' = m ∧ d' < d)))
  · have := day_lt_of h' h h1; omega
  · by_cases h2 : y = y' ∧ m = m' ∧ d = d'
    · obtain ⟨rfl, rfl, rfl⟩ := h2; omega
    · omega
theorem lessZ_iff (a b : Lab) : lessZ a b = true ↔ a.y < b.y ∨ (a.y = b.y ∧ (a.mo < b.mo ∨ (a.mo = b.mo ∧ (a.d < b.d ∨ (a.d = b.d ∧ (a.h < b.h ∨ (a.h = b.h ∧ (a.mi < b.mi ∨ (a.mi = b.mi ∧ a.s < b.s))))))))) := by
  unfold lessZ
  by_cases h1 : a.y = b.y
  · rw [if_neg (by simpa using h1)]
    by_cases h2 : a.mo = b.mo
    · rw [if_neg (by simpa using h2)]
      by_cases h3 : a.d = b.d
      · rw [if_neg (by simpa using h3)]
        by_cases h4 : a.h = b.h
        · rw [if_neg (by simpa using h4)]
          by_cases h5 : a.mi = b.mi
          · rw [if_neg (by simpa using h5), decide_eq_true_eq]; omega
          · rw [if_pos h5, decide_eq_true_eq]; omega
        · rw [if_pos h4, decide_eq_true_eq]; omega
      · rw [if_pos h3, decide_eq_true_eq]; omega
    · rw [if_pos h2, decide_eq_true_eq]; omega
  · rw [if_pos h1, decide_eq_true_eq]; omega
/-- A number's day, and the next one's. -/
theorem date_day {n : Int} (h : dateB n = true) : dayB (dYear n) (dMonth n) (dDay n) = true ∧ dayZ (dYear n) (dMonth n) (dDay n) = n := by
  simp only [dateB, Bool.and_eq_true, decide_eq_true_eq] at h
  obtain ⟨a1, a2, a3, a4, a5, a6, a7⟩ := date_spec h.1 h.2
  refine ⟨by simp [dayB]; omega, a7⟩
theorem day_inj {y m d y' m' d' : Int} (h : dayB y m d = true) (h' : dayB y' m' d' = true) (he : dayZ y m d = dayZ y' m' d') : y = y' ∧ m = m' ∧ d = d' := by
  have h1 := day_lt_iff h h'
  have h2 := day_lt_iff h' h
  omega
theorem date_next {n : Int} (h : dateB n = true) (h' : dateB (n + 1) = true) : lessZ ⟨dYear n, dMonth n, dDay n, 0, 0, 0⟩ ⟨dYear (n + 1), dMonth (n + 1), dDay (n + 1), 0, 0, 0⟩ = true ∧
    (dDay n < longZ (dYear n) (dMonth n) → dYear (n + 1) = dYear n ∧ dMonth (n + 1) = dMonth n ∧ dDay (n + 1) = dDay n + 1) := by
  obtain ⟨a, b⟩ := date_day h
  obtain ⟨c, d⟩ := date_day h'
  constructor
  · rw [lessZ_iff]
    have := (day_lt_iff a c).2 (by omega)
    simp only
    omega
  · intro hl
    have a' := day_mem a
    have e : dayB (dYear n) (dMonth n) (dDay n + 1) = true := by simp [dayB]; omega
    obtain ⟨e1, e2, e3⟩ := day_inj c e (by rw [d]; unfold dayZ at b ⊢; omega)
    exact ⟨e1, e2, e3⟩
theorem right_mk {l : Lab} (h : dayB l.y l.mo l.d = true) (g : 0 ≤ l.h ∧ l.h ≤ 23 ∧ 0 ≤ l.mi ∧ l.mi ≤ 59 ∧ 0 ≤ l.s ∧ l.s ≤ 59) : rightZ l = true := by
  obtain ⟨a, b, c, d, e, f⟩ := g
  simp only [rightZ, h, decide_eq_true a, decide_eq_true b, decide_eq_true c, decide_eq_true d, decide_eq_true e, decide_eq_true f, Bool.and_self, Bool.true_or]
theorem of_right {s : Int} (h : ofB s = true) : rightZ (ofL s) = true ∧ secZ (ofL s) = s ∧ s % 60 ≤ 59 := by
  simp only [ofB, Bool.and_eq_true, decide_eq_true_eq] at h
  obtain ⟨a, b⟩ := date_day (n := s / 86400) (by simp [dateB]; omega)
  refine ⟨?_, ?_, by omega⟩
  · exact right_mk a ⟨by simp only [ofL]; omega, by simp only [ofL]; omega, by simp only [ofL]; omega, by simp only [ofL]; omega, by simp only [ofL]; omega, by simp only [ofL]; omega⟩
  · simp only [secZ, ofL, b]; omega
theorem read_txt {l : Lab} (h : rightZ l = true) : readL (txt l) = l := by
  obtain ⟨g1, g2, g3, g4, g5, g6, g7, _⟩ := right_mem h
  obtain ⟨d1, d2, d3, d4, d5, d6, d7, d8⟩ := day_mem g1
  have hlg := longZ_bd l.y l.mo
  have e : readL (txt l) = ⟨numF 0 (dig4 l.y), numF 0 (dig2 l.mo), numF 0 (dig2 l.d), numF 0 (dig2 l.h), numF 0 (dig2 l.mi), numF 0 (dig2 l.s)⟩ := rfl
  have n2 (n : Int) (h0 : 0 ≤ n) (h1 : n ≤ 99) : numF 0 (dig2 n) = n := by simp only [numF, dig2, List.foldl_cons, List.foldl_nil]; omega
  have n4 (n : Int) (h0 : 0 ≤ n) (h1 : n ≤ 9999) : numF 0 (dig4 n) = n := by simp only [numF, dig4, List.foldl_cons, List.foldl_nil]; omega
  rw [e, n4 _ (by omega) (by omega), n2 _ (by omega) (by omega), n2 _ (by omega) (by omega), n2 _ (by omega) (by omega), n2 _ (by omega) (by omega), n2 _ (by omega) (by omega)]
theorem read_text (l : Lab) : readB (bytesOf (textZ l)) = rightZ l ∧ (rightZ l = true → readL (numsOf (bytesOf (textZ l))) = l) := by
  cases h : rightZ l with
  | false =>
    have e : textZ l = [] := by unfold textZ; rw [h]; rfl
    rw [e]
    exact ⟨rfl, fun h => by cases h⟩
  | true =>
    have e : textZ l = txt l := by unfold textZ; rw [h]; rfl
    have en : numsOf (bytesOf (txt l)) = txt l := nums_bytesOf (txt_bytes h)
    rw [e, en]
    refine ⟨?_, fun _ => read_txt h⟩
    unfold readB
    rw [en, read_txt h, e, sEq_refl, bytesOf_size]
    rfl

/-! ### Texts in order -/
def lessI : List Int → List Int → Bool
  | _, [] => false
  | [], _ :: _ => true
  | a :: x, b :: y => decide (a < b) || (a == b && lessI x y)
theorem less_bytes : ∀ (xs ys : List Int), (∀ n ∈ xs, 0 ≤ n ∧ n ≤ 255) → (∀ n ∈ ys, 0 ≤ n ∧ n ≤ 255) → Op.bytesLess (xs.map fun n => UInt8.ofNat n.toNat) (ys.map fun n => UInt8.ofNat n.toNat) = lessI xs ys
  | [], [], _, _ => rfl
  | _ :: _, [], _, _ => rfl
  | [], _ :: _, _, _ => rfl
  | a :: x, b :: y, hx, hy => by
    have ha := hx a (by simp)
    have hb := hy b (by simp)
    have ea : (UInt8.ofNat a.toNat).toNat = a.toNat := by
      have : (UInt8.ofNat a.toNat).toNat = a.toNat % 256 := rfl
      omega
    have eb : (UInt8.ofNat b.toNat).toNat = b.toNat := by
      have : (UInt8.ofNat b.toNat).toNat = b.toNat % 256 := rfl
      omega
    simp only [List.map_cons, Op.bytesLess, lessI, less_bytes x y (fun n hn => hx n (List.mem_cons_of_mem _ hn)) (fun n hn => hy n (List.mem_cons_of_mem _ hn))]
    have e1 : decide (UInt8.ofNat a.toNat < UInt8.ofNat b.toNat) = decide (a < b) := by
      rw [Bool.eq_iff_iff, decide_eq_true_eq, decide_eq_true_eq, UInt8.lt_iff_toNat_lt, ea, eb]; omega
    have e2 : (UInt8.ofNat a.toNat == UInt8.ofNat b.toNat) = (a == b) := by
      rw [Bool.eq_iff_iff, beq_iff_eq, beq_iff_eq, ← UInt8.toNat_inj, ea, eb]; omega
    rw [e1, e2]
theorem sLt_bytes {xs ys : List Int} (hx : ∀ n ∈ xs, 0 ≤ n ∧ n ≤ 255) (hy : ∀ n ∈ ys, 0 ≤ n ∧ n ≤ 255) : sLt (bytesOf xs) (bytesOf ys) = lessI xs ys := by
  unfold sLt
  rw [ByteArray.toList_eq, ByteArray.toList_eq]
  exact less_bytes xs ys hx hy
theorem lessI_app : ∀ (a b x y : List Int), a.length = b.length → lessI (a ++ x) (b ++ y) = (lessI a b || (decide (a = b) && lessI x y))
  | [], [], x, y, _ => by simp [lessI]
  | p :: a, q :: b, x, y, h => by
    simp only [List.cons_append, lessI, lessI_app a b x y (by simpa using h)]
    by_cases e : p = q
    · subst e; simp
    · have e' : (p == q) = false := by simpa using e
      simp [e, e']
theorem less_dig2 {a b : Int} (h0 : 0 ≤ a) (h1 : a ≤ 99) (h2 : 0 ≤ b) (h3 : b ≤ 99) : lessI (dig2 a) (dig2 b) = decide (a < b) ∧ decide (dig2 a = dig2 b) = decide (a = b) := by
  constructor
  · rw [Bool.eq_iff_iff]
    simp only [lessI, dig2, Bool.or_eq_true, Bool.and_eq_true, decide_eq_true_eq, beq_iff_eq, Bool.false_eq_true, and_false, or_false]
    omega
  · rw [Bool.eq_iff_iff]
    simp only [dig2, decide_eq_true_eq, List.cons.injEq, and_true]
    omega
theorem less_dig4 {a b : Int} (h0 : 0 ≤ a) (h1 : a ≤ 9999) (h2 : 0 ≤ b) (h3 : b ≤ 9999) : lessI (dig4 a) (dig4 b) = decide (a < b) ∧ decide (dig4 a = dig4 b) = decide (a = b) := by
  constructor
  · rw [Bool.eq_iff_iff]
    simp only [lessI, dig4, Bool.or_eq_true, Bool.and_eq_true, decide_eq_true_eq, beq_iff_eq, Bool.false_eq_true, and_false, or_false]
    omega
  · rw [Bool.eq_iff_iff]
    simp only [dig4, decide_eq_true_eq, List.cons.injEq, and_true]
    omega
theorem less_cons (c : Int) (x y : List Int) : lessI (c :: x) (c :: y) = lessI x y := by simp [lessI]
theorem text_less {a b : Lab} (ha : rightZ a = true) (hb : rightZ b = true) : sLt (bytesOf (textZ a)) (bytesOf (textZ b)) = lessZ a b := by
  have ea : textZ a = txt a := by unfold textZ; rw [ha]; rfl
  have eb : textZ b = txt b := by unfold textZ; rw [hb]; rfl
  rw [ea, eb, sLt_bytes (txt_bytes ha) (txt_bytes hb)]
  obtain ⟨g1, g2, g3, g4, g5, g6, g7, _⟩ := right_mem ha
  obtain ⟨d1, d2, d3, d4, d5, d6, d7, d8⟩ := day_mem g1
  have hlg := longZ_bd a.y a.mo
  obtain ⟨k1, k2, k3, k4, k5, k6, k7, _⟩ := right_mem hb
  obtain ⟨e1, e2, e3, e4, e5, e6, e7, e8⟩ := day_mem k1
  have hlk := longZ_bd b.y b.mo
  obtain ⟨u0, v0⟩ := less_dig4 (a := a.y) (b := b.y) (by omega) (by omega) (by omega) (by omega)
  obtain ⟨u1, v1⟩ := less_dig2 (a := a.mo) (b := b.mo) (by omega) (by omega) (by omega) (by omega)
  obtain ⟨u2, v2⟩ := less_dig2 (a := a.d) (b := b.d) (by omega) (by omega) (by omega) (by omega)
  obtain ⟨u3, v3⟩ := less_dig2 (a := a.h) (b := b.h) (by omega) (by omega) (by omega) (by omega)
  obtain ⟨u4, v4⟩ := less_dig2 (a := a.mi) (b := b.mi) (by omega) (by omega) (by omega) (by omega)
  obtain ⟨u5, v5⟩ := less_dig2 (a := a.s) (b := b.s) (by omega) (by omega) (by omega) (by omega)
  unfold txt
  simp only [List.append_assoc, List.cons_append]
  rw [lessI_app (dig4 a.y) (dig4 b.y) _ _ rfl, less_cons, lessI_app (dig2 a.mo) (dig2 b.mo) _ _ rfl, less_cons, lessI_app (dig2 a.d) (dig2 b.d) _ _ rfl, less_cons, lessI_app (dig2 a.h) (dig2 b.h) _ _ rfl, less_cons, lessI_app (dig2 a.mi) (dig2 b.mi) _ _ rfl, less_cons,
    u0, v0, u1, v1, u2, v2, u3, v3, u4, v4, u5]
  rw [Bool.eq_iff_iff, lessZ_iff]
  simp only [Bool.or_eq_true, Bool.and_eq_true, decide_eq_true_eq]
theorem less_secs {a b : Lab} (ha : rightZ a = true) (hb : rightZ b = true) : (lessZ a b = true → secZ a ≤ secZ b) ∧ (lessZ a b = false → secZ b ≤ secZ a) := by
  obtain ⟨g1, g2, g3, g4, g5, g6, g7, g8⟩ := right_mem ha
  obtain ⟨k1, k2, k3, k4, k5, k6, k7, k8⟩ := right_mem hb
  have h1 := day_lt_iff g1 k1
  have h2 := day_lt_iff k1 g1
  have h3 : (a.y = b.y ∧ a.mo = b.mo ∧ a.d = b.d) → dayZ a.y a.mo a.d = dayZ b.y b.mo b.d := by rintro ⟨e1, e2, e3⟩; rw [e1, e2, e3]
  have hl := lessZ_iff a b
  unfold secZ
  generalize dayZ a.y a.mo a.d = x at *
  generalize dayZ b.y b.mo b.d = z at *
  constructor
  · intro h
    have := hl.1 h
    by_cases hx : x < z
    · omega
    · have : a.y = b.y ∧ a.mo = b.mo ∧ a.d = b.d := by omega
      have := h3 this
      omega
  · intro h
    have hn : ¬ (lessZ a b = true) := by rw [h]; decide
    rw [hl] at hn
    by_cases hx : z < x
    · omega
    · have : a.y = b.y ∧ a.mo = b.mo ∧ a.d = b.d := by omega
      have := h3 this
      omega
end Go.Proofs.YtioplplpiaalhaaDoor

set_option maxRecDepth 100000
set_option linter.unusedSimpArgs false
set_option linter.unusedVariables false
namespace Go.Proofs.YtioplplpiaalhaaDoor
open Go.Rx

abbrev mnG : List (Nat × Rx.Spec) := [(11, dayS), (18, longS), (16, leapS), (15, trueS)]
theorem mnG_ok : GammaOK P mnG := .cons day_ok (.cons long_ok (.cons leap_ok (.cons alive_ok (.nil P))))
def lwMonthsS : Rx.Spec := fun a b => match a, b with
  | [.int .i64 y, .int .i64 m], [] => .need (inI y && inI m) (.leaf ⟨.bool true, [], []⟩)
  | _, _ => .fail
theorem lwMonths_ok : SpecOK P 5 lwMonthsS := by
  refine specOK_fast mnG_ok hm (Λ := loopsOf []) Tryd.func5 (by kernel_rfl) (LoopsOK.nil (by kernel_rfl)) ?_
  intro args bs r h
  unfold lwMonthsS at h
  split at h
  · rename_i y m
    rw [den_need, denLf] at h
    obtain ⟨hn, h⟩ := h; cases h
    rw [show (fFn P (specsOf mnG) (loopsOf []) Tryd.f5 [.int .i64 y, .int .i64 m] []).denN = Tree.denN (Tree.ite (dayB y m 1) (Tree.ite (dayB y (IntKind.i64.wrap (m + 1)) 1) (Tree.ite (IntKind.i64.wrap (dayZ y (IntKind.i64.wrap (m + 1)) 1 - dayZ y m 1) == longZ y m) (Tree.ite (decide (IntKind.i64.wrap (dayZ y (IntKind.i64.wrap (m + 1)) 1 - dayZ y m 1) ≥ 28)) (Tree.leaf { v := V.bool (decide (IntKind.i64.wrap (dayZ y (IntKind.i64.wrap (m + 1)) 1 - dayZ y m 1) ≤ 31)), upd := [], new := [] }) (Tree.leaf { v := V.fls, upd := [], new := [] })) (Tree.leaf { v := V.fls, upd := [], new := [] })) (Tree.leaf { v := V.bool true, upd := [], new := [] })) (Tree.ite (dayB y (IntKind.i64.wrap (m + 1)) 1) (Tree.leaf { v := V.bool true, upd := [], new := [] }) (Tree.leaf { v := V.bool true, upd := [], new := [] }))) from by kernel_rfl]
    simp only [denN_ite, denN_leaf, denN_fail, beq_self_eq_true, if_true]
    cases h1 : dayB y m 1 with
    | false =>
      rw [if_neg (by decide)]
      cases dayB y (IntKind.i64.wrap (m + 1)) 1 <;> rfl
    | true =>
      rw [if_pos rfl]
      obtain ⟨d1, d2, d3, d4, d5, d6, d7, d8⟩ := day_mem h1
      have w : IntKind.i64.wrap (m + 1) = m + 1 := wrap64_id (by omega) (by omega)
      rw [w]
      cases h2 : dayB y (m + 1) 1 with
      | false => rfl
      | true =>
        rw [if_pos rfl]
        obtain ⟨e1, e2, e3, e4, e5, e6, e7, e8⟩ := day_mem h2
        have k : dayZ y (m + 1) 1 - dayZ y m 1 = longZ y m := by
          have := mdZ_succ y m d3
          unfold dayZ; omega
        have l28 : 28 ≤ longZ y m ∧ longZ y m ≤ 31 := by
          unfold longZ
          rw [if_neg (by omega)]
          split
          · split <;> omega
          · split <;> omega
        rw [k, wrap64_id (n := longZ y m) (by omega) (by omega), if_pos (by simp), if_pos (by simp; omega)]
        exact resB (by simp; omega)
  · simp [den_fail] at h
def lwFoursS : Rx.Spec := fun a b => match a, b with
  | [.int .i64 y, .int .i64 m, .int .i64 d], [] => .need (inI y && inI m && inI d) (.leaf ⟨.bool true, [], []⟩)
  | _, _ => .fail
theorem leapZ_400 (y : Int) : leapZ (y + 400) = leapZ y := by
  unfold leapZ
  rw [show (y + 400) % 4 = y % 4 by omega, show (y + 400) % 100 = y % 100 by omega, show (y + 400) % 400 = y % 400 by omega]
theorem longZ_400 (y m : Int) : longZ (y + 400) m = longZ y m := by unfold longZ; rw [leapZ_400]
theorem mdN_400 (y : Int) : ∀ k, mdN (y + 400) k = mdN y k
  | 0 => rfl
  | k + 1 => by simp only [mdN, mdN_400 y k, longZ_400]
theorem mdZ_400 (y m : Int) : mdZ (y + 400) m = mdZ y m := mdN_400 y _
theorem lwFours_ok : SpecOK P 6 lwFoursS := by
  refine specOK_fast mnG_ok hm (Λ := loopsOf []) Tryd.func6 (by kernel_rfl) (LoopsOK.nil (by kernel_rfl)) ?_
  intro args bs r h
  unfold lwFoursS at h
  split at h
  · rename_i y m d
    rw [den_need, denLf] at h
    obtain ⟨hn, h⟩ := h; cases h
    rw [show (fFn P (specsOf mnG) (loopsOf []) Tryd.f6 [.int .i64 y, .int .i64 m, .int .i64 d] []).denN = Tree.denN (Tree.ite (dayB y m d) (Tree.ite (dayB (IntKind.i64.wrap (y + 400)) m d) (Tree.leaf { v := V.bool (IntKind.i64.wrap (dayZ (IntKind.i64.wrap (y + 400)) m d - dayZ y m d) == 146097), upd := [], new := [] }) (Tree.leaf { v := V.bool (decide (y > 9599)), upd := [], new := [] })) (Tree.ite (dayB (IntKind.i64.wrap (y + 400)) m d) (Tree.leaf { v := V.tru, upd := [], new := [] }) (Tree.leaf { v := V.tru, upd := [], new := [] }))) from by kernel_rfl]
    simp only [denN_ite, denN_leaf, denN_fail, beq_self_eq_true, if_true]
    cases h1 : dayB y m d with
    | false =>
      rw [if_neg (by decide)]
      cases dayB (IntKind.i64.wrap (y + 400)) m d <;> rfl
    | true =>
      rw [if_pos rfl]
      obtain ⟨d1, d2, d3, d4, d5, d6, d7, d8⟩ := day_mem h1
      have w : IntKind.i64.wrap (y + 400) = y + 400 := wrap64_id (by omega) (by omega)
      rw [w]
      have hl : longZ (y + 400) m = longZ y m := longZ_400 y m
      cases h2 : dayB (y + 400) m d with
      | false =>
        rw [if_neg (by decide)]
        refine resB ?_
        simp only [dayB, Bool.and_eq_false_iff, decide_eq_false_iff_not, hl] at h2
        simp only [decide_eq_true_eq]
        omega
      | true =>
        rw [if_pos rfl]
        obtain ⟨e1, e2, e3, e4, e5, e6, e7, e8⟩ := day_mem h2
        have k : dayZ (y + 400) m d - dayZ y m d = 146097 := by
          have h3 := mdZ_400 y m
          have h4 : aheadZ (y + 400) = aheadZ y + 146097 := by unfold aheadZ; omega
          unfold dayZ; omega
        rw [k, wrap64_id (by omega) (by omega)]
        rfl
  · simp [den_fail] at h
noncomputable abbrev yrL : LSpec := fUnroll P (specsOf [(18, longS)]) (loopsOf []) Tryd.f4 (loopAt Tryd.f4 0) 13
theorem yrG_ok : GammaOK P [(18, longS)] := .cons long_ok (.nil P)
def lwYearsS : Rx.Spec := fun a b => match a, b with
  | [.int .i64 y], [] => .need (inI y) (.leaf ⟨.bool true, [], []⟩)
  | _, _ => .fail
theorem lwYears_ok : SpecOK P 4 lwYearsS := by
  refine specOK_fast mnG_ok hm (Λ := loopsOf [(firstRegion (loopAt Tryd.f4 0), yrL)]) Tryd.func4 (by kernel_rfl) (LoopsOK.one (by kernel_rfl) (fUnroll_ok yrG_ok hm (LoopsOK.nil (by kernel_rfl)) _ _)) ?_
  intro args bs r h
  unfold lwYearsS at h
  split at h
  · rename_i y
    rw [den_need, denLf] at h
    obtain ⟨hn, h⟩ := h; cases h
    rw [show (fFn P (specsOf mnG) (loopsOf [(firstRegion (loopAt Tryd.f4 0), yrL)]) Tryd.f4 [.int .i64 y] []).denN = Tree.denN (Tree.ite (decide (y < 1970)) (Tree.leaf { v := V.bool true, upd := [], new := [] }) (Tree.ite (decide (y > 9998)) (Tree.leaf { v := V.bool true, upd := [], new := [] }) (Tree.ite (dayB y 1 1) (Tree.ite (dayB (IntKind.i64.wrap (y + 1)) 1 1) (Tree.ite (IntKind.i64.wrap (dayZ (IntKind.i64.wrap (y + 1)) 1 1 - dayZ y 1 1) == IntKind.i64.wrap (IntKind.i64.wrap (IntKind.i64.wrap (IntKind.i64.wrap (IntKind.i64.wrap (IntKind.i64.wrap (IntKind.i64.wrap (IntKind.i64.wrap (IntKind.i64.wrap (IntKind.i64.wrap (IntKind.i64.wrap (IntKind.i64.wrap (0 + longZ y 1) + longZ y 2) + longZ y 3) + longZ y 4) + longZ y 5) + longZ y 6) + longZ y 7) + longZ y 8) + longZ y 9) + longZ y 10) + longZ y 11) + longZ y 12)) (Tree.ite ((IntKind.i64.wrap (IntKind.i64.wrap (IntKind.i64.wrap (IntKind.i64.wrap (IntKind.i64.wrap (IntKind.i64.wrap (IntKind.i64.wrap (IntKind.i64.wrap (IntKind.i64.wrap (IntKind.i64.wrap (IntKind.i64.wrap (IntKind.i64.wrap (0 + longZ y 1) + longZ y 2) + longZ y 3) + longZ y 4) + longZ y 5) + longZ y 6) + longZ y 7) + longZ y 8) + longZ y 9) + longZ y 10) + longZ y 11) + longZ y 12) == 366) == leapZ y) (Tree.leaf { v := V.bool !(IntKind.i64.wrap (IntKind.i64.wrap (IntKind.i64.wrap (IntKind.i64.wrap (IntKind.i64.wrap (IntKind.i64.wrap (IntKind.i64.wrap (IntKind.i64.wrap (IntKind.i64.wrap (IntKind.i64.wrap (IntKind.i64.wrap (IntKind.i64.wrap (0 + longZ y 1) + longZ y 2) + longZ y 3) + longZ y 4) + longZ y 5) + longZ y 6) + longZ y 7) + longZ y 8) + longZ y 9) + longZ y 10) + longZ y 11) + longZ y 12) == 365) == leapZ y, upd := [], new := [] }) (Tree.leaf { v := V.fls, upd := [], new := [] })) (Tree.leaf { v := V.fls, upd := [], new := [] })) (Tree.leaf { v := V.fls, upd := [], new := [] })) (Tree.ite (dayB (IntKind.i64.wrap (y + 1)) 1 1) (Tree.leaf { v := V.fls, upd := [], new := [] }) (Tree.leaf { v := V.fls, upd := [], new := [] }))))) from by kernel_rfl]
    simp only [denN_ite, denN_leaf, denN_fail, beq_self_eq_true, if_true]
    by_cases h1 : y < 1970
    · rw [if_pos (by simpa using h1)]
    by_cases h2 : y > 9998
    · rw [if_neg (by simpa using h1), if_pos (by simpa using h2)]
    rw [if_neg (by simpa using h1), if_neg (by simpa using h2)]
    have w : IntKind.i64.wrap (y + 1) = y + 1 := wrap64_id (by omega) (by omega)
    have b1 : dayB y 1 1 = true := by
      have : longZ y 1 = 31 := rfl
      simp [dayB, this]; omega
    have b2 : dayB (y + 1) 1 1 = true := by
      have : longZ (y + 1) 1 = 31 := rfl
      simp [dayB, this]; omega
    have l1 : longZ y 1 = 31 := rfl
    have l2 : longZ y 2 = if leapZ y = true then 29 else 28 := rfl
    have l3 : longZ y 3 = 31 := rfl
    have l4 : longZ y 4 = 30 := rfl
    have l5 : longZ y 5 = 31 := rfl
    have l6 : longZ y 6 = 30 := rfl
    have l7 : longZ y 7 = 31 := rfl
    have l8 : longZ y 8 = 31 := rfl
    have l9 : longZ y 9 = 30 := rfl
    have l10 : longZ y 10 = 31 := rfl
    have l11 : longZ y 11 = 30 := rfl
    have l12 : longZ y 12 = 31 := rfl
    have ha := ahead_bd y (by omega) (by omega)
    have ha2 := ahead_bd (y + 1) (by omega) (by omega)
    have hs := ahead_step y (by omega)
    have k : IntKind.i64.wrap (dayZ (y + 1) 1 1 - dayZ y 1 1) = yearlyZ y := by
      have e : dayZ (y + 1) 1 1 - dayZ y 1 1 = yearlyZ y := by unfold dayZ; rw [mdZ_one, mdZ_one]; omega
      have := yearly_bd y
      rw [e, wrap64_id (by omega) (by omega)]
    rw [w, if_pos b1, if_pos b2, k, l1, l2, l3, l4, l5, l6, l7, l8, l9, l10, l11, l12]
    unfold yearlyZ
    cases leapZ y <;> rfl
  · simp [den_fail] at h

abbrev bkG : List (Nat × Rx.Spec) := [(13, dateS), (11, dayS), (26, lessS), (18, longS), (20, ofS), (22, secS), (28, textS), (29, readS), (24, rightS), (15, trueS)]
theorem bkG_ok : GammaOK P bkG := .cons date_ok (.cons day_ok (.cons less_ok (.cons long_ok (.cons of_ok (.cons sec_ok (.cons text_ok (.cons read_ok (.cons right_ok (.cons alive_ok (.nil P))))))))))
def lwBackS : Rx.Spec := fun a b => match a, b with
  | [.int .i64 d, .int .i64 s, u], [] => match Lab.of u with
    | some l => .need (inI d && inI s) (.leaf ⟨.bool true, [], []⟩)
    | _ => .fail
  | _, _ => .fail
theorem lwBack_ok : SpecOK P 10 lwBackS := by
  refine specOK_fast bkG_ok hm (Λ := loopsOf []) Tryd.func10 (by kernel_rfl) (LoopsOK.nil (by kernel_rfl)) ?_
  intro args bs r h
  unfold lwBackS at h
  split at h
  · split at h
    · rename_i d s u _ l hl
      rw [Lab.of_eq hl]
      rw [den_need, denLf] at h
      obtain ⟨hn, h⟩ := h; cases h
      rw [show (fFn P (specsOf bkG) (loopsOf []) Tryd.f10 [.int .i64 d, .int .i64 s, l.v] []).denN = Tree.denN (Tree.ite (dateB d) (Tree.ite (dayB (dYear d) (dMonth d) (dDay d)) (Tree.ite (dateB (IntKind.i64.wrap (d + 1))) (Tree.ite (dayZ (dYear d) (dMonth d) (dDay d) != d) (Tree.leaf { v := V.fls, upd := [], new := [] }) (Tree.ite (!lessZ { y := dYear d, mo := dMonth d, d := dDay d, h := 0, mi := 0, s := 0 } { y := dYear (IntKind.i64.wrap (d + 1)), mo := dMonth (IntKind.i64.wrap (d + 1)), d := dDay (IntKind.i64.wrap (d + 1)), h := 0, mi := 0, s := 0 }) (Tree.leaf { v := V.fls, upd := [], new := [] }) (Tree.ite (decide (dDay d < longZ (dYear d) (dMonth d))) (Tree.ite (dYear (IntKind.i64.wrap (d + 1)) != dYear d) (Tree.leaf { v := V.fls, upd := [], new := [] }) (Tree.ite (dMonth (IntKind.i64.wrap (d + 1)) != dMonth d) (Tree.leaf { v := V.fls, upd := [], new := [] }) (Tree.ite (dDay (IntKind.i64.wrap (d + 1)) != IntKind.i64.wrap (dDay d + 1)) (Tree.leaf { v := V.fls, upd := [], new := [] }) (Tree.ite (decide (s ≤ 9223372036854775807)) (Tree.ite (ofB s) (Tree.ite (rightZ { y := dYear (s / 86400), mo := dMonth (s / 86400), d := dDay (s / 86400), h := s % 86400 / 3600, mi := s % 3600 / 60, s := s % 60 }) (Tree.ite (secZ { y := dYear (s / 86400), mo := dMonth (s / 86400), d := dDay (s / 86400), h := s % 86400 / 3600, mi := s % 3600 / 60, s := s % 60 } != s) (Tree.leaf { v := V.fls, upd := [], new := [] }) (Tree.ite (decide (s % 60 > 59)) (Tree.leaf { v := V.fls, upd := [], new := [] }) (Tree.ite (readB (bytesOf (textZ l))) (Tree.ite (true == rightZ l) (Tree.leaf { v := V.bool (numF 0 (piece (numsOf (bytesOf (textZ l))) 0 4) == l.1 && (numF 0 (piece (numsOf (bytesOf (textZ l))) 5 7) == l.2 && (numF 0 (piece (numsOf (bytesOf (textZ l))) 8 10) == l.3 && (numF 0 (piece (numsOf (bytesOf (textZ l))) 11 13) == l.4 && (numF 0 (piece (numsOf (bytesOf (textZ l))) 14 16) == l.5 && (numF 0 (piece (numsOf (bytesOf (textZ l))) 17 19) == l.6 && true)))))), upd := [], new := [] }) (Tree.leaf { v := V.fls, upd := [], new := [] })) (Tree.ite (false == rightZ l) (Tree.leaf { v := V.tru, upd := [], new := [] }) (Tree.leaf { v := V.fls, upd := [], new := [] }))))) (Tree.leaf { v := V.fls, upd := [], new := [] })) (Tree.ite (readB (bytesOf (textZ l))) (Tree.ite (true == rightZ l) (Tree.leaf { v := V.bool (numF 0 (piece (numsOf (bytesOf (textZ l))) 0 4) == l.1 && (numF 0 (piece (numsOf (bytesOf (textZ l))) 5 7) == l.2 && (numF 0 (piece (numsOf (bytesOf (textZ l))) 8 10) == l.3 && (numF 0 (piece (numsOf (bytesOf (textZ l))) 11 13) == l.4 && (numF 0 (piece (numsOf (bytesOf (textZ l))) 14 16) == l.5 && (numF 0 (piece (numsOf (bytesOf (textZ l))) 17 19) == l.6 && true)))))), upd := [], new := [] }) (Tree.leaf { v := V.fls, upd := [], new := [] })) (Tree.ite (false == rightZ l) (Tree.leaf { v := V.tru, upd := [], new := [] }) (Tree.leaf { v := V.fls, upd := [], new := [] })))) Tree.fail)))) (Tree.ite (decide (s ≤ 9223372036854775807)) (Tree.ite (ofB s) (Tree.ite (rightZ { y := dYear (s / 86400), mo := dMonth (s / 86400), d := dDay (s / 86400), h := s % 86400 / 3600, mi := s % 3600 / 60, s := s % 60 }) (Tree.ite (secZ { y := dYear (s / 86400), mo := dMonth (s / 86400), d := dDay (s / 86400), h := s % 86400 / 3600, mi := s % 3600 / 60, s := s % 60 } != s) (Tree.leaf { v := V.fls, upd := [], new := [] }) (Tree.ite (decide (s % 60 > 59)) (Tree.leaf { v := V.fls, upd := [], new := [] }) (Tree.ite (readB (bytesOf (textZ l))) (Tree.ite (true == rightZ l) (Tree.leaf { v := V.bool (numF 0 (piece (numsOf (bytesOf (textZ l))) 0 4) == l.1 && (numF 0 (piece (numsOf (bytesOf (textZ l))) 5 7) == l.2 && (numF 0 (piece (numsOf (bytesOf (textZ l))) 8 10) == l.3 && (numF 0 (piece (numsOf (bytesOf (textZ l))) 11 13) == l.4 && (numF 0 (piece (numsOf (bytesOf (textZ l))) 14 16) == l.5 && (numF 0 (piece (numsOf (bytesOf (textZ l))) 17 19) == l.6 && true)))))), upd := [], new := [] }) (Tree.leaf { v := V.fls, upd := [], new := [] })) (Tree.ite (false == rightZ l) (Tree.leaf { v := V.tru, upd := [], new := [] }) (Tree.leaf { v := V.fls, upd := [], new := [] }))))) (Tree.leaf { v := V.fls, upd := [], new := [] })) (Tree.ite (readB (bytesOf (textZ l))) (Tree.ite (true == rightZ l) (Tree.leaf { v := V.bool (numF 0 (piece (numsOf (bytesOf (textZ l))) 0 4) == l.1 && (numF 0 (piece (numsOf (bytesOf (textZ l))) 5 7) == l.2 && (numF 0 (piece (numsOf (bytesOf (textZ l))) 8 10) == l.3 && (numF 0 (piece (numsOf (bytesOf (textZ l))) 11 13) == l.4 && (numF 0 (piece (numsOf (bytesOf (textZ l))) 14 16) == l.5 && (numF 0 (piece (numsOf (bytesOf (textZ l))) 17 19) == l.6 && true)))))), upd := [], new := [] }) (Tree.leaf { v := V.fls, upd := [], new := [] })) (Tree.ite (false == rightZ l) (Tree.leaf { v := V.tru, upd := [], new := [] }) (Tree.leaf { v := V.fls, upd := [], new := [] })))) Tree.fail)))) (Tree.ite (dayZ (dYear d) (dMonth d) (dDay d) != d) (Tree.leaf { v := V.fls, upd := [], new := [] }) (Tree.ite (decide (dDay d < longZ (dYear d) (dMonth d))) (Tree.ite (0 != dYear d) (Tree.leaf { v := V.fls, upd := [], new := [] }) (Tree.ite (0 != dMonth d) (Tree.leaf { v := V.fls, upd := [], new := [] }) (Tree.ite (0 != IntKind.i64.wrap (dDay d + 1)) (Tree.leaf { v := V.fls, upd := [], new := [] }) (Tree.ite (decide (s ≤ 9223372036854775807)) (Tree.ite (ofB s) (Tree.ite (rightZ { y := dYear (s / 86400), mo := dMonth (s / 86400), d := dDay (s / 86400), h := s % 86400 / 3600, mi := s % 3600 / 60, s := s % 60 }) (Tree.ite (secZ { y := dYear (s / 86400), mo := dMonth (s / 86400), d := dDay (s / 86400), h := s % 86400 / 3600, mi := s % 3600 / 60, s := s % 60 } != s) (Tree.leaf { v := V.fls, upd := [], new := [] }) (Tree.ite (decide (s % 60 > 59)) (Tree.leaf { v := V.fls, upd := [], new := [] }) (Tree.ite (readB (bytesOf (textZ l))) (Tree.ite (true == rightZ l) (Tree.leaf { v := V.bool (numF 0 (piece (numsOf (bytesOf (textZ l))) 0 4) == l.1 && (numF 0 (piece (numsOf (bytesOf (textZ l))) 5 7) == l.2 && (numF 0 (piece (numsOf (bytesOf (textZ l))) 8 10) == l.3 && (numF 0 (piece (numsOf (bytesOf (textZ l))) 11 13) == l.4 && (numF 0 (piece (numsOf (bytesOf (textZ l))) 14 16) == l.5 && (numF 0 (piece (numsOf (bytesOf (textZ l))) 17 19) == l.6 && true)))))), upd := [], new := [] }) (Tree.leaf { v := V.fls, upd := [], new := [] })) (Tree.ite (false == rightZ l) (Tree.leaf { v := V.tru, upd := [], new := [] }) (Tree.leaf { v := V.fls, upd := [], new := [] }))))) (Tree.leaf { v := V.fls, upd := [], new := [] })) (Tree.ite (readB (bytesOf (textZ l))) (Tree.ite (true == rightZ l) (Tree.leaf { v := V.bool (numF 0 (piece (numsOf (bytesOf (textZ l))) 0 4) == l.1 && (numF 0 (piece (numsOf (bytesOf (textZ l))) 5 7) == l.2 && (numF 0 (piece (numsOf (bytesOf (textZ l))) 8 10) == l.3 && (numF 0 (piece (numsOf (bytesOf (textZ l))) 11 13) == l.4 && (numF 0 (piece (numsOf (bytesOf (textZ l))) 14 16) == l.5 && (numF 0 (piece (numsOf (bytesOf (textZ l))) 17 19) == l.6 && true)))))), upd := [], new := [] }) (Tree.leaf { v := V.fls, upd := [], new := [] })) (Tree.ite (false == rightZ l) (Tree.leaf { v := V.tru, upd := [], new := [] }) (Tree.leaf { v := V.fls, upd := [], new := [] })))) Tree.fail)))) (Tree.ite (decide (s ≤ 9223372036854775807)) (Tree.ite (ofB s) (Tree.ite (rightZ { y := dYear (s / 86400), mo := dMonth (s / 86400), d := dDay (s / 86400), h := s % 86400 / 3600, mi := s % 3600 / 60, s := s % 60 }) (Tree.ite (secZ { y := dYear (s / 86400), mo := dMonth (s / 86400), d := dDay (s / 86400), h := s % 86400 / 3600, mi := s % 3600 / 60, s := s % 60 } != s) (Tree.leaf { v := V.fls, upd := [], new := [] }) (Tree.ite (decide (s % 60 > 59)) (Tree.leaf { v := V.fls, upd := [], new := [] }) (Tree.ite (readB (bytesOf (textZ l))) (Tree.ite (true == rightZ l) (Tree.leaf { v := V.bool (numF 0 (piece (numsOf (bytesOf (textZ l))) 0 4) == l.1 && (numF 0 (piece (numsOf (bytesOf (textZ l))) 5 7) == l.2 && (numF 0 (piece (numsOf (bytesOf (textZ l))) 8 10) == l.3 && (numF 0 (piece (numsOf (bytesOf (textZ l))) 11 13) == l.4 && (numF 0 (piece (numsOf (bytesOf (textZ l))) 14 16) == l.5 && (numF 0 (piece (numsOf (bytesOf (textZ l))) 17 19) == l.6 && true)))))), upd := [], new := [] }) (Tree.leaf { v := V.fls, upd := [], new := [] })) (Tree.ite (false == rightZ l) (Tree.leaf { v := V.tru, upd := [], new := [] }) (Tree.leaf { v := V.fls, upd := [], new := [] }))))) (Tree.leaf { v := V.fls, upd := [], new := [] })) (Tree.ite (readB (bytesOf (textZ l))) (Tree.ite (true == rightZ l) (Tree.leaf { v := V.bool (numF 0 (piece (numsOf (bytesOf (textZ l))) 0 4) == l.1 && (numF 0 (piece (numsOf (bytesOf (textZ l))) 5 7) == l.2 && (numF 0 (piece (numsOf (bytesOf (textZ l))) 8 10) == l.3 && (numF 0 (piece (numsOf (bytesOf (textZ l))) 11 13) == l.4 && (numF 0 (piece (numsOf (bytesOf (textZ l))) 14 16) == l.5 && (numF 0 (piece (numsOf (bytesOf (textZ l))) 17 19) == l.6 && true)))))), upd := [], new := [] }) (Tree.leaf { v := V.fls, upd := [], new := [] })) (Tree.ite (false == rightZ l) (Tree.leaf { v := V.tru, upd := [], new := [] }) (Tree.leaf { v := V.fls, upd := [], new := [] })))) Tree.fail)))) (Tree.ite (dateB (IntKind.i64.wrap (d + 1))) (Tree.leaf { v := V.fls, upd := [], new := [] }) (Tree.leaf { v := V.fls, upd := [], new := [] }))) (Tree.ite (decide (s ≤ 9223372036854775807)) (Tree.ite (ofB s) (Tree.ite (rightZ { y := dYear (s / 86400), mo := dMonth (s / 86400), d := dDay (s / 86400), h := s % 86400 / 3600, mi := s % 3600 / 60, s := s % 60 }) (Tree.ite (secZ { y := dYear (s / 86400), mo := dMonth (s / 86400), d := dDay (s / 86400), h := s % 86400 / 3600, mi := s % 3600 / 60, s := s % 60 } != s) (Tree.leaf { v := V.fls, upd := [], new := [] }) (Tree.ite (decide (s % 60 > 59)) (Tree.leaf { v := V.fls, upd := [], new := [] }) (Tree.ite (readB (bytesOf (textZ l))) (Tree.ite (true == rightZ l) (Tree.leaf { v := V.bool (numF 0 (piece (numsOf (bytesOf (textZ l))) 0 4) == l.1 && (numF 0 (piece (numsOf (bytesOf (textZ l))) 5 7) == l.2 && (numF 0 (piece (numsOf (bytesOf (textZ l))) 8 10) == l.3 && (numF 0 (piece (numsOf (bytesOf (textZ l))) 11 13) == l.4 && (numF 0 (piece (numsOf (bytesOf (textZ l))) 14 16) == l.5 && (numF 0 (piece (numsOf (bytesOf (textZ l))) 17 19) == l.6 && true)))))), upd := [], new := [] }) (Tree.leaf { v := V.fls, upd := [], new := [] })) (Tree.ite (false == rightZ l) (Tree.leaf { v := V.tru, upd := [], new := [] }) (Tree.leaf { v := V.fls, upd := [], new := [] }))))) (Tree.leaf { v := V.fls, upd := [], new := [] })) (Tree.ite (readB (bytesOf (textZ l))) (Tree.ite (true == rightZ l) (Tree.leaf { v := V.bool (numF 0 (piece (numsOf (bytesOf (textZ l))) 0 4) == l.1 && (numF 0 (piece (numsOf (bytesOf (textZ l))) 5 7) == l.2 && (numF 0 (piece (numsOf (bytesOf (textZ l))) 8 10) == l.3 && (numF 0 (piece (numsOf (bytesOf (textZ l))) 11 13) == l.4 && (numF 0 (piece (numsOf (bytesOf (textZ l))) 14 16) == l.5 && (numF 0 (piece (numsOf (bytesOf (textZ l))) 17 19) == l.6 && true)))))), upd := [], new := [] }) (Tree.leaf { v := V.fls, upd := [], new := [] })) (Tree.ite (false == rightZ l) (Tree.leaf { v := V.tru, upd := [], new := [] }) (Tree.leaf { v := V.fls, upd := [], new := [] })))) Tree.fail)) from by kernel_rfl]
      simp only [denN_ite, denN_leaf, denN_fail, beq_self_eq_true, if_true]
      have hs : decide (s ≤ 9223372036854775807) = true := by simp only [inI, Bool.and_eq_true] at hn; exact hn.2.2
      obtain ⟨r1, r2⟩ := read_text l
      have tl : rightZ l = true → (numF 0 (piece (numsOf (bytesOf (textZ l))) 0 4) == l.y) = true ∧ (numF 0 (piece (numsOf (bytesOf (textZ l))) 5 7) == l.mo) = true ∧ (numF 0 (piece (numsOf (bytesOf (textZ l))) 8 10) == l.d) = true ∧
          (numF 0 (piece (numsOf (bytesOf (textZ l))) 11 13) == l.h) = true ∧ (numF 0 (piece (numsOf (bytesOf (textZ l))) 14 16) == l.mi) = true ∧ (numF 0 (piece (numsOf (bytesOf (textZ l))) 17 19) == l.s) = true := by
        intro hr
        have e := r2 hr
        have e0 := congrArg Lab.y e
        have e1 := congrArg Lab.mo e
        have e2 := congrArg Lab.d e
        have e3 := congrArg Lab.h e
        have e4 := congrArg Lab.mi e
        have e5 := congrArg Lab.s e
        simp only [readL] at e0 e1 e2 e3 e4 e5
        simp only [beq_iff_eq]
        exact ⟨e0, e1, e2, e3, e4, e5⟩
      rw [r1, hs]
      have hT : (if rightZ l = true then if (true == rightZ l) = true then some (Res.nrm ⟨.bool (numF 0 (piece (numsOf (bytesOf (textZ l))) 0 4) == l.y && (numF 0 (piece (numsOf (bytesOf (textZ l))) 5 7) == l.mo && (numF 0 (piece (numsOf (bytesOf (textZ l))) 8 10) == l.d && (numF 0 (piece (numsOf (bytesOf (textZ l))) 11 13) == l.h && (numF 0 (piece (numsOf (bytesOf (textZ l))) 14 16) == l.mi && (numF 0 (piece (numsOf (bytesOf (textZ l))) 17 19) == l.s && true)))))), [], []⟩) else some (Res.nrm ⟨.fls, [], []⟩)
          else if (false == rightZ l) = true then some (Res.nrm ⟨.tru, [], []⟩) else some (Res.nrm ⟨.fls, [], []⟩)) = some (Res.nrm ⟨.bool true, [], []⟩) := by
        cases hr : rightZ l with
        | true =>
          obtain ⟨e0, e1, e2, e3, e4, e5⟩ := tl hr
          rw [if_pos rfl, if_pos (by decide), e0, e1, e2, e3, e4, e5]
          rfl
        | false => rfl
      simp only [hT, if_true]
      have hS : ofB s = true → rightZ { y := dYear (s / 86400), mo := dMonth (s / 86400), d := dDay (s / 86400), h := s % 86400 / 3600, mi := s % 3600 / 60, s := s % 60 } = true ∧
          (secZ { y := dYear (s / 86400), mo := dMonth (s / 86400), d := dDay (s / 86400), h := s % 86400 / 3600, mi := s % 3600 / 60, s := s % 60 } != s) = false ∧ decide (s % 60 > 59) = false := by
        intro h
        obtain ⟨a, b, c⟩ := of_right h
        refine ⟨a, ?_, by simp; omega⟩
        have : secZ (ofL s) = s := b
        show (secZ (ofL s) != s) = false
        rw [this]; simp
      have hS' : (if ofB s = true then if rightZ { y := dYear (s / 86400), mo := dMonth (s / 86400), d := dDay (s / 86400), h := s % 86400 / 3600, mi := s % 3600 / 60, s := s % 60 } = true then
          if (secZ { y := dYear (s / 86400), mo := dMonth (s / 86400), d := dDay (s / 86400), h := s % 86400 / 3600, mi := s % 3600 / 60, s := s % 60 } != s) = true then some (Res.nrm ⟨.fls, [], []⟩) else if decide (s % 60 > 59) = true then some (Res.nrm ⟨.fls, [], []⟩) else some (Res.nrm ⟨.bool true, [], []⟩)
          else some (Res.nrm ⟨.fls, [], []⟩) else some (Res.nrm ⟨.bool true, [], []⟩)) = some (Res.nrm ⟨.bool true, [], []⟩) := by
        cases h : ofB s with
        | true =>
          obtain ⟨a, b, c⟩ := hS h
          rw [if_pos rfl, if_pos a, b, c]; rfl
        | false => rfl
      simp only [hS']
      have hdr : d ≤ 9223372036854775807 ∧ -9223372036854775808 ≤ d := by simp only [inI, Bool.and_eq_true, decide_eq_true_eq] at hn; exact ⟨hn.1.2, hn.1.1⟩
      cases hd : dateB d with
      | false => rfl
      | true =>
        obtain ⟨a, b⟩ := date_day hd
        obtain ⟨d1, d2, d3, d4, d5, d6, d7, d8⟩ := day_mem a
        have w : IntKind.i64.wrap (d + 1) = d + 1 := wrap64_id (by omega) (by omega)
        have hl31 := longZ_bd (dYear d) (dMonth d)
        have w2 : IntKind.i64.wrap (dDay d + 1) = dDay d + 1 := wrap64_id (by omega) (by omega)
        rw [if_pos rfl, if_pos a, w, w2, b]
        cases hd1 : dateB (d + 1) with
        | true =>
          obtain ⟨n1, n2⟩ := date_next hd hd1
          rw [if_pos rfl, if_neg (by simp), n1, if_neg (by decide)]
          by_cases hlt : dDay d < longZ (dYear d) (dMonth d)
          · obtain ⟨e1, e2, e3⟩ := n2 hlt
            rw [if_pos (by simpa using hlt), e1, e2, e3, if_neg (by simp), if_neg (by simp), if_neg (by simp)]
          · rw [if_neg (by simpa using hlt)]
        | false =>
          have hlt : ¬ dDay d < longZ (dYear d) (dMonth d) := by
            intro hlt
            have e : dayB (dYear d) (dMonth d) (dDay d + 1) = true := by simp [dayB]; omega
            have := day_mem e
            have e2 : dayZ (dYear d) (dMonth d) (dDay d + 1) = d + 1 := by unfold dayZ at b ⊢; omega
            rw [e2] at this
            have : dateB (d + 1) = true := by simp [dateB]; omega
            rw [hd1] at this; cases this
          rw [if_neg (by decide), if_neg (by simp), if_neg (by simpa using hlt)]
    · simp [den_fail] at h
  · simp [den_fail] at h
def lwOrderS : Rx.Spec := fun a b => match a, b with
  | [u, v], [] => match Lab.of u, Lab.of v with
    | some l, some m => .leaf ⟨.bool true, [], []⟩
    | _, _ => .fail
  | _, _ => .fail
theorem lwOrder_ok : SpecOK P 8 lwOrderS := by
  refine specOK_fast bkG_ok hm (Λ := loopsOf []) Tryd.func8 (by kernel_rfl) (LoopsOK.nil (by kernel_rfl)) ?_
  intro args bs r h
  unfold lwOrderS at h
  split at h
  · split at h
    · rename_i u v _ _ l m hl hm'
      rw [Lab.of_eq hl, Lab.of_eq hm']
      rw [denLf] at h; cases h
      rw [show (fFn P (specsOf bkG) (loopsOf []) Tryd.f8 [l.v, m.v] []).denN = Tree.denN (Tree.ite (!rightZ l) (Tree.leaf { v := V.bool true, upd := [], new := [] }) (Tree.ite (!rightZ m) (Tree.leaf { v := V.bool true, upd := [], new := [] }) (Tree.ite (rightZ l) (Tree.ite (rightZ m) (Tree.ite (lessZ l m == sLt (bytesOf (textZ l)) (bytesOf (textZ m))) (Tree.ite (!lessZ l m) (Tree.ite (decide (secZ l ≥ secZ m)) (Tree.leaf { v := V.tru, upd := [], new := [] }) (Tree.leaf { v := V.bool (lessZ l m), upd := [], new := [] })) (Tree.ite (decide (secZ l ≤ secZ m)) (Tree.ite (decide (secZ l ≥ secZ m)) (Tree.leaf { v := V.tru, upd := [], new := [] }) (Tree.leaf { v := V.bool (lessZ l m), upd := [], new := [] })) (Tree.leaf { v := V.fls, upd := [], new := [] }))) (Tree.leaf { v := V.fls, upd := [], new := [] })) (Tree.ite (lessZ l m == sLt (bytesOf (textZ l)) (bytesOf (textZ m))) (Tree.ite (!lessZ l m) (Tree.ite (decide (secZ l ≥ 0)) (Tree.leaf { v := V.tru, upd := [], new := [] }) (Tree.leaf { v := V.bool (lessZ l m), upd := [], new := [] })) (Tree.ite (decide (secZ l ≤ 0)) (Tree.ite (decide (secZ l ≥ 0)) (Tree.leaf { v := V.tru, upd := [], new := [] }) (Tree.leaf { v := V.bool (lessZ l m), upd := [], new := [] })) (Tree.leaf { v := V.fls, upd := [], new := [] }))) (Tree.leaf { v := V.fls, upd := [], new := [] }))) (Tree.ite (rightZ m) (Tree.ite (lessZ l m == sLt (bytesOf (textZ l)) (bytesOf (textZ m))) (Tree.ite (!lessZ l m) (Tree.ite (decide (0 ≥ secZ m)) (Tree.leaf { v := V.tru, upd := [], new := [] }) (Tree.leaf { v := V.bool (lessZ l m), upd := [], new := [] })) (Tree.ite (decide (0 ≤ secZ m)) (Tree.ite (decide (0 ≥ secZ m)) (Tree.leaf { v := V.tru, upd := [], new := [] }) (Tree.leaf { v := V.bool (lessZ l m), upd := [], new := [] })) (Tree.leaf { v := V.fls, upd := [], new := [] }))) (Tree.leaf { v := V.fls, upd := [], new := [] })) (Tree.ite (lessZ l m == sLt (bytesOf (textZ l)) (bytesOf (textZ m))) (Tree.ite (!lessZ l m) (Tree.leaf { v := V.tru, upd := [], new := [] }) (Tree.leaf { v := V.tru, upd := [], new := [] })) (Tree.leaf { v := V.fls, upd := [], new := [] })))))) from by kernel_rfl]
      simp only [denN_ite, denN_leaf, denN_fail, beq_self_eq_true, if_true]
      cases h1 : rightZ l with
      | false => rfl
      | true =>
        cases h2 : rightZ m with
        | false => rfl
        | true =>
          rw [text_less h1 h2, if_neg (by decide), if_neg (by decide), if_pos rfl, if_pos rfl, if_pos (by simp)]
          obtain ⟨a, b⟩ := less_secs h1 h2
          cases hq : lessZ l m with
          | true =>
            rw [if_neg (by decide), if_pos (by simpa using a hq)]
            split <;> rfl
          | false =>
            rw [if_pos (by decide), if_pos (by simpa using b hq)]
            rfl
    · simp [den_fail] at h
  · simp [den_fail] at h
end Go.Proofs.YtioplplpiaalhaaDoor
