/- Layer 6: a message cut, and a longer one. The conditions stand in the specifications. -/
import Derived.Test.YthjldfmlclpdbaaFrG
set_option linter.unusedSimpArgs false
set_option linter.unusedVariables false
set_option linter.unnecessarySimpa false
set_option linter.unusedSectionVars false
set_option maxRecDepth 100000
set_option linter.unusedSimpArgs false
set_option linter.unusedVariables false
namespace Go.Proofs.Ythjldfmlclpdbaa
open Go.Rx

/-- A view that is shorter than a right message. -/
def cutErr (l : Nat) : Int := if l < 34 then 50 else 53
def hcutS : Rx.Spec := fun a b => match a, b with
  | [.sl 0 0 0 1 l cap], [.ints .u8 xs] => .need (allByte xs && decide (l < xs.length) && decide (xs.length ≤ 9223372036854775806) && decide (decErr xs = 0)) (.leaf ⟨.tup [zeroHd, .int .i64 (cutErr l)], [none], []⟩)
  | _, _ => .fail
theorem hcut_ok : SpecOK P 35 hcutS := by
  refine specOK_fast dec_G hm (Λ := loopsOf []) Try.func35 (by kernel_rfl) (LoopsOK.nil (by kernel_rfl)) ?_
  intro args bs r h
  unfold hcutS at h
  split at h
  · rename_i l cap xs
    rw [den_need, den_leaf] at h
    obtain ⟨hf, rfl⟩ := h
    simp only [Bool.and_eq_true, decide_eq_true_eq] at hf
    obtain ⟨⟨⟨h1, hl⟩, h3⟩, h0⟩ := hf
    rw [show (fFn P (specsOf [(19, longS), (50, flagsS), (51, sourcedS), (55, numberS), (40, getS), (56, reservedS)]) (loopsOf []) Try.f35 [.sl 0 0 0 1 l cap] [.ints .u8 xs]).denN = Tree.denN (Tree.ite (decide ((↑l : Int) < 34)) (Tree.leaf { v := V.tup [V.agg [V.int IntKind.i64 0, V.int IntKind.i64 0, V.int IntKind.i64 0, V.int IntKind.i64 0, V.int IntKind.u8 0, V.int IntKind.u8 0, V.int IntKind.u8 0, V.int IntKind.u8 0, V.int IntKind.u8 0, V.int IntKind.u8 0, V.int IntKind.u8 0, V.int IntKind.u8 0, V.int IntKind.i64 0, V.int IntKind.i64 0, V.int IntKind.i64 0], V.int IntKind.i64 50], upd := [none], new := [] }) (Tree.ite (true && decide (0 < (↑l : Int))) (Tree.ite (decide (1 ≤ xs.length)) (Tree.ite (true && decide (4 < (↑l : Int))) (Tree.ite (decide (5 ≤ xs.length)) (Tree.ite (true && decide (8 ≤ (↑l : Int))) (Tree.ite (allByte xs && decide (8 ≤ xs.length) && true) (Tree.ite (true && decide (16 ≤ (↑l : Int))) (Tree.ite (allByte xs && decide (16 ≤ xs.length) && true) (Tree.ite (true && decide (32 ≤ (↑l : Int))) (Tree.ite (allByte xs && decide (32 ≤ xs.length) && true) (Tree.ite (true && decide (33 < (↑l : Int))) (Tree.ite (decide (34 ≤ xs.length)) (Tree.ite (true && decide (30 ≤ (↑l : Int))) (Tree.ite (allByte xs && true && decide (30 ≤ xs.length)) (Tree.ite (true && decide (4 ≤ (↑l : Int))) (Tree.ite (allByte xs && decide (4 ≤ xs.length) && true) (Tree.ite (true && decide (1 < (↑l : Int))) (Tree.ite (decide (2 ≤ xs.length)) (Tree.ite (xs.getD 1 0 != 2) (Tree.leaf { v := V.tup [V.agg [V.int IntKind.i64 0, V.int IntKind.i64 0, V.int IntKind.i64 0, V.int IntKind.i64 0, V.int IntKind.u8 0, V.int IntKind.u8 0, V.int IntKind.u8 0, V.int IntKind.u8 0, V.int IntKind.u8 0, V.int IntKind.u8 0, V.int IntKind.u8 0, V.int IntKind.u8 0, V.int IntKind.i64 0, V.int IntKind.i64 0, V.int IntKind.i64 0], V.int IntKind.i64 51], upd := [none], new := [] }) (Tree.ite (longZ (IntKind.i64.wrap (bAnd IntKind.u8 (xs.getD 0 0) 15)) == 0) (Tree.leaf { v := V.tup [V.agg [V.int IntKind.i64 0, V.int IntKind.i64 0, V.int IntKind.i64 0, V.int IntKind.i64 0, V.int IntKind.u8 0, V.int IntKind.u8 0, V.int IntKind.u8 0, V.int IntKind.u8 0, V.int IntKind.u8 0, V.int IntKind.u8 0, V.int IntKind.u8 0, V.int IntKind.u8 0, V.int IntKind.i64 0, V.int IntKind.i64 0, V.int IntKind.i64 0], V.int IntKind.i64 52], upd := [none], new := [] }) (Tree.ite (IntKind.i64.wrap (sumF 0 (bytesAt xs 2 2)) != longZ (IntKind.i64.wrap (bAnd IntKind.u8 (xs.getD 0 0) 15))) (Tree.leaf { v := V.tup [V.agg [V.int IntKind.i64 0, V.int IntKind.i64 0, V.int IntKind.i64 0, V.int IntKind.i64 0, V.int IntKind.u8 0, V.int IntKind.u8 0, V.int IntKind.u8 0, V.int IntKind.u8 0, V.int IntKind.u8 0, V.int IntKind.u8 0, V.int IntKind.u8 0, V.int IntKind.u8 0, V.int IntKind.i64 0, V.int IntKind.i64 0, V.int IntKind.i64 0], V.int IntKind.i64 53], upd := [none], new := [] }) (Tree.ite (IntKind.i64.wrap (sumF 0 (bytesAt xs 2 2)) != (↑l : Int)) (Tree.leaf { v := V.tup [V.agg [V.int IntKind.i64 0, V.int IntKind.i64 0, V.int IntKind.i64 0, V.int IntKind.i64 0, V.int IntKind.u8 0, V.int IntKind.u8 0, V.int IntKind.u8 0, V.int IntKind.u8 0, V.int IntKind.u8 0, V.int IntKind.u8 0, V.int IntKind.u8 0, V.int IntKind.u8 0, V.int IntKind.i64 0, V.int IntKind.i64 0, V.int IntKind.i64 0], V.int IntKind.i64 53], upd := [none], new := [] }) (Tree.ite (allByte xs && decide (l ≤ xs.length) && decide (34 ≤ l)) (Tree.ite (resB8 xs) (Tree.leaf { v := V.tup [V.agg [V.int IntKind.i64 0, V.int IntKind.i64 0, V.int IntKind.i64 0, V.int IntKind.i64 0, V.int IntKind.u8 0, V.int IntKind.u8 0, V.int IntKind.u8 0, V.int IntKind.u8 0, V.int IntKind.u8 0, V.int IntKind.u8 0, V.int IntKind.u8 0, V.int IntKind.u8 0, V.int IntKind.i64 0, V.int IntKind.i64 0, V.int IntKind.i64 0], V.int IntKind.i64 54], upd := [none], new := [] }) (Tree.ite (inI64 (IntKind.i64.wrap (sumF 0 (bytesAt xs 6 2)))) (Tree.ite (!flagsB (IntKind.i64.wrap (bAnd IntKind.u8 (xs.getD 0 0) 15)) (IntKind.i64.wrap (sumF 0 (bytesAt xs 6 2)))) (Tree.leaf { v := V.tup [V.agg [V.int IntKind.i64 0, V.int IntKind.i64 0, V.int IntKind.i64 0, V.int IntKind.i64 0, V.int IntKind.u8 0, V.int IntKind.u8 0, V.int IntKind.u8 0, V.int IntKind.u8 0, V.int IntKind.u8 0, V.int IntKind.u8 0, V.int IntKind.u8 0, V.int IntKind.u8 0, V.int IntKind.i64 0, V.int IntKind.i64 0, V.int IntKind.i64 0], V.int IntKind.i64 55], upd := [none], new := [] }) (Tree.ite (!sourcedB (xs.getD 28 0 * 256 + xs.getD 29 0)) (Tree.leaf { v := V.tup [V.agg [V.int IntKind.i64 0, V.int IntKind.i64 0, V.int IntKind.i64 0, V.int IntKind.i64 0, V.int IntKind.u8 0, V.int IntKind.u8 0, V.int IntKind.u8 0, V.int IntKind.u8 0, V.int IntKind.u8 0, V.int IntKind.u8 0, V.int IntKind.u8 0, V.int IntKind.u8 0, V.int IntKind.i64 0, V.int IntKind.i64 0, V.int IntKind.i64 0], V.int IntKind.i64 56], upd := [none], new := [] }) (Tree.leaf { v := V.tup [V.agg [V.int IntKind.i64 (IntKind.i64.wrap (bAnd IntKind.u8 (xs.getD 0 0) 15)), V.int IntKind.i64 (IntKind.i64.wrap (xs.getD 4 0)), V.int IntKind.i64 (IntKind.i64.wrap (sumF 0 (bytesAt xs 6 2))), V.int IntKind.i64 (IntKind.i64.wrap (sumF 0 (bytesAt xs 8 8))), V.int IntKind.u8 (xs.getD 20 0), V.int IntKind.u8 (xs.getD 21 0), V.int IntKind.u8 (xs.getD 22 0), V.int IntKind.u8 (xs.getD 23 0), V.int IntKind.u8 (xs.getD 24 0), V.int IntKind.u8 (xs.getD 25 0), V.int IntKind.u8 (xs.getD 26 0), V.int IntKind.u8 (xs.getD 27 0), V.int IntKind.i64 (xs.getD 28 0 * 256 + xs.getD 29 0), V.int IntKind.i64 (IntKind.i64.wrap (sumF 0 (bytesAt xs 30 2))), V.int IntKind.i64 (IntKind.i64.wrap (IntKind.i8.wrap (xs.getD 33 0)))], V.int IntKind.i64 0], upd := [none], new := [] }))) Tree.fail)) Tree.fail))))) Tree.fail) Tree.fail) Tree.fail) Tree.fail) Tree.fail) Tree.fail) Tree.fail) Tree.fail) Tree.fail) Tree.fail) Tree.fail) Tree.fail) Tree.fail) Tree.fail) Tree.fail) Tree.fail) Tree.fail) Tree.fail)) from by kernel_rfl]
    have h34 : 34 ≤ xs.length := (told_right h1 h0).1
    have b0 := allByte_getD h1 0
    have b2 := allByte_getD h1 2
    have b3 := allByte_getD h1 3
    have e0 : IntKind.i64.wrap (bAnd IntKind.u8 (xs.getD 0 0) 15) = dTy xs := by
      rw [show bAnd IntKind.u8 (xs.getD 0 0) 15 = xs.getD 0 0 % 16 from u8_and15 _ b0.1 (by omega)]
      exact wrap64_id (by omega) (by omega)
    have e1 : IntKind.i64.wrap (sumF 0 (bytesAt xs 2 2)) = dSz xs := by
      show IntKind.i64.wrap (sumF 0 [xs.getD 2 0, xs.getD 3 0]) = xs.getD 2 0 * 256 + xs.getD 3 0
      simp only [sumF, List.foldl_cons, List.foldl_nil]
      rw [wrap64_id (by omega) (by omega)]; omega
    rw [e0, e1]
    simp only [denN_ite, denN_leaf, denN_fail, h1]
    unfold cutErr
    by_cases hs : l < 34
    · rw [if_pos (by simp; omega), if_pos hs]; rfl
    · have f (n : Nat) (hn : n ≤ 34) : decide ((n : Int) ≤ (l : Int)) = true := by simp only [decide_eq_true_eq]; omega
      have g (n : Nat) (hn : n < 34) : decide ((n : Int) < (l : Int)) = true := by simp only [decide_eq_true_eq]; omega
      have k (n : Nat) (hn : n ≤ 34) : decide (n ≤ xs.length) = true := by simp only [decide_eq_true_eq]; omega
      have d0 := h0
      unfold decErr at d0
      rw [if_neg (by omega)] at d0
      by_cases c1 : xs.getD 1 0 ≠ 2
      · rw [if_pos c1] at d0; omega
      rw [if_neg c1] at d0
      by_cases c2 : longZ (dTy xs) = 0
      · rw [if_pos c2] at d0; omega
      rw [if_neg c2] at d0
      by_cases c3 : dSz xs ≠ longZ (dTy xs) ∨ (xs.length : Int) ≠ longZ (dTy xs)
      · rw [if_pos c3] at d0; omega
      have c4 : dSz xs = longZ (dTy xs) := by omega
      have c5 : (xs.length : Int) = longZ (dTy xs) := by omega
      have j1 : ¬ decide ((l : Int) < 34) = true := by simp only [decide_eq_true_eq]; omega
      have j2 : (xs.getD 1 0 != 2) = false := by simpa [-List.getD_eq_getElem?_getD] using c1
      have j3 : (longZ (dTy xs) == 0) = false := by simpa using c2
      have j4 : (dSz xs != longZ (dTy xs)) = false := by simpa using c4
      have j5 : (dSz xs != (l : Int)) = true := by
        have : dSz xs ≠ (l : Int) := by omega
        simpa using this
      rw [if_neg j1, if_neg hs]
      have m0 := g 0 (by omega)
      have m1 := g 4 (by omega)
      have m2 := f 8 (by omega)
      have m3 := f 16 (by omega)
      have m4 := f 32 (by omega)
      have m5 := g 33 (by omega)
      have m6 := f 30 (by omega)
      have m7 := f 4 (by omega)
      have m8 := g 1 (by omega)
      simp only [Int.cast_ofNat_Int, Int.natCast_zero, Int.natCast_one] at m0 m1 m2 m3 m4 m5 m6 m7 m8
      simp only [m0, m1, m2, m3, m4, m5, m6, m7, m8, k 1 (by omega), k 5 (by omega), k 8 (by omega), k 16 (by omega), k 32 (by omega), k 34 (by omega), k 30 (by omega), k 4 (by omega), k 2 (by omega), j2, j3, j4, j5, Bool.true_and, Bool.and_true, Bool.and_self, if_true, Bool.false_eq_true, if_false]
      rfl
  · simp [den_fail] at h
noncomputable abbrev hcG : List (Nat × Rx.Spec) := [(35, hcutS)]
theorem hcG_ok : GammaOK P hcG := .cons hcut_ok (.nil P)
def fcS : Rx.Spec := fun a b => match a, b with
  | [.sl 0 0 0 1 l cap], [.ints .u8 xs] => .need (allByte xs && decide (l < xs.length) && decide (xs.length ≤ 9223372036854775806) && decide (decErr xs = 0)) (.leaf ⟨.tup [Msg.zero.v, .int .i64 (cutErr l)], [none], []⟩)
  | _, _ => .fail
theorem fc_ok : SpecOK P 16 fcS := by
  refine specOK_fast hcG_ok hm (Λ := loopsOf []) Try.func16 (by kernel_rfl) (LoopsOK.nil (by kernel_rfl)) ?_
  intro args bs r h
  unfold fcS at h
  split at h
  · rename_i l cap xs
    rw [den_need, den_leaf] at h
    obtain ⟨hf, rfl⟩ := h
    rw [show (fFn P (specsOf hcG) (loopsOf []) Try.f16 [.sl 0 0 0 1 l cap] [.ints .u8 xs]).denN = Tree.denN (Tree.ite (allByte xs && decide (l < xs.length) && decide (xs.length ≤ 9223372036854775806) && decide (decErr xs = 0)) (Tree.ite (cutErr l != 0) (Tree.leaf { v := V.tup [V.agg [V.int IntKind.i64 0, V.int IntKind.i64 0, V.int IntKind.i64 0, V.int IntKind.i64 0, V.int IntKind.u8 0, V.int IntKind.u8 0, V.int IntKind.u8 0, V.int IntKind.u8 0, V.int IntKind.u8 0, V.int IntKind.u8 0, V.int IntKind.u8 0, V.int IntKind.u8 0, V.int IntKind.i64 0, V.int IntKind.i64 0, V.int IntKind.i64 0, V.int IntKind.i64 0, V.int IntKind.i64 0, V.int IntKind.u8 0, V.int IntKind.u8 0, V.int IntKind.u8 0, V.int IntKind.u8 0, V.int IntKind.u8 0, V.int IntKind.u8 0, V.int IntKind.u8 0, V.int IntKind.u8 0, V.int IntKind.i64 0, V.int IntKind.i64 0, V.int IntKind.i64 0, V.int IntKind.i64 0, V.int IntKind.i64 0, V.int IntKind.i64 0, V.int IntKind.i64 0, V.int IntKind.u8 0, V.int IntKind.u8 0, V.int IntKind.u8 0, V.int IntKind.u8 0, V.int IntKind.u8 0, V.int IntKind.u8 0, V.int IntKind.u8 0, V.int IntKind.u8 0, V.int IntKind.i64 0, V.int IntKind.u8 0, V.int IntKind.u8 0, V.int IntKind.u8 0, V.int IntKind.u8 0, V.int IntKind.u8 0, V.int IntKind.u8 0, V.int IntKind.u8 0, V.int IntKind.u8 0, V.int IntKind.i64 0, V.int IntKind.u8 0, V.int IntKind.u8 0, V.int IntKind.u8 0, V.int IntKind.u8 0, V.int IntKind.u8 0, V.int IntKind.u8 0, V.int IntKind.u8 0, V.int IntKind.u8 0, V.int IntKind.i64 0, V.int IntKind.i64 0], V.int IntKind.i64 (cutErr l)], upd := [none], new := [] }) (Tree.ite (true && decide (34 ≤ (↑l : Int)) && decide ((↑l : Int) ≤ (↑l : Int))) Tree.fail Tree.fail)) Tree.fail) from by kernel_rfl]
    simp only [denN_ite, denN_leaf, denN_fail, hf, if_true]
    have hne : (cutErr l != 0) = true := by unfold cutErr; split <;> rfl
    simp only [hne, if_true]
    rfl
  · simp [den_fail] at h
end Go.Proofs.Ythjldfmlclpdbaa

set_option maxRecDepth 100000
set_option linter.unusedSimpArgs false
set_option linter.unusedVariables false
namespace Go.Proofs.Ythjldfmlclpdbaa
open Go.Rx

/-- What the program reads, of a whole block or of a view that is shorter. -/
def decCS (dm : List Int → Msg) (em : List Int → Int) : Rx.Spec := fun a b => match a, b with
  | [.sl 0 0 0 1 l cap], [.ints .u8 xs] => .ite (decide (l < xs.length)) (.need (allByte xs && decide (xs.length ≤ 9223372036854775806) && (em xs == 0)) (.leaf ⟨.tup [Msg.zero.v, .int .i64 (cutErr l)], [none], []⟩))
      (.need (allByte xs && decide (l = xs.length) && decide (xs.length ≤ 9223372036854775806)) (.ite (em xs == 0) (.leaf ⟨.tup [(dm xs).v, .int .i64 0], [none], []⟩) (.leaf ⟨.tup [Msg.zero.v, .int .i64 (em xs)], [none], []⟩)))
  | _, _ => .fail
theorem decC_ok : SpecOK P 16 (decCS dMsg mErr) := by
  refine specOK_any fc_ok ?_
  intro args bs r h
  unfold decCS at h
  split at h
  · rename_i l cap xs
    rw [den_ite] at h
    cases hl : decide (l < xs.length) with
    | true =>
      rw [hl] at h
      simp only [true_and, Bool.true_eq_false, false_and, or_false] at h
      rw [den_need, den_leaf] at h
      obtain ⟨hf, h⟩ := h
      subst h
      simp only [Bool.and_eq_true, beq_iff_eq] at hf
      refine ⟨fcS, fc_ok, ?_⟩
      show (Rx.Tree.denN (.need _ _)) = _
      refine denN_of (den_need.2 ⟨?_, den_leaf.2 rfl⟩)
      rw [hf.1.1, hl, hf.1.2, decide_eq_true (read_cases hf.1.1 hf.2).1]; rfl
    | false =>
      rw [hl] at h
      simp only [true_and, Bool.false_eq_true, false_and, false_or] at h
      exact ⟨decMS, decM_ok, denN_of h⟩
  · simp [den_fail] at h
noncomputable abbrev cuU (dm : List Int → Msg) (em : List Int → Int) : List (Nat × Rx.Spec) := [(10, encMS), (11, i11S), (13, trueS), (16, decCS dm em)]
theorem cuU_ok : GammaOK P (cuU dMsg mErr) := .cons encM_ok (.cons i11_ok (.cons alive_ok (.cons decC_ok (.nil P))))
def fcutS : Rx.Spec := fun a b => match a, b with
  | [v, .int .i64 n, .sl 0 0 0 1 l cap], [.ints .u8 xs] => match Msg.of v with
    | some m => .need (inI64 m.h.fl && msgZ m) (.need (allByte xs && decide (l = xs.length) && decide (xs.length ≤ 140737488351232)) (.leaf ⟨.bool true, [none], []⟩))
    | none => .fail
  | _, _ => .fail
theorem err53 {B xs : List Int} (hb : allByte B = true) (h0 : mErr B = 0) (hl : 0 < xs.length) : mErr (B ++ xs) = 53 := by
  have d0 : decErr B = 0 := (read_cases hb h0).1
  have h34 : 34 ≤ B.length := (told_right hb d0).1
  have g (i : Nat) (hi : i < 34) : (B ++ xs).getD i 0 = B.getD i 0 := by
    rw [List.getD_eq_getElem?_getD, List.getD_eq_getElem?_getD, List.getElem?_append_left (by omega)]
  have eT : dTy (B ++ xs) = dTy B := by unfold dTy; rw [g 0 (by omega)]
  have eS : dSz (B ++ xs) = dSz B := by unfold dSz; rw [g 2 (by omega), g 3 (by omega)]
  have d1 : decErr (B ++ xs) = 53 := by
    have d := d0
    unfold decErr at d ⊢
    rw [eT, eS, g 1 (by omega), List.length_append]
    rw [if_neg (by omega)] at d ⊢
    by_cases c1 : B.getD 1 0 ≠ 2
    · rw [if_pos c1] at d; omega
    rw [if_neg c1] at d ⊢
    by_cases c2 : longZ (dTy B) = 0
    · rw [if_pos c2] at d; omega
    rw [if_neg c2] at d ⊢
    by_cases c3 : dSz B ≠ longZ (dTy B) ∨ (B.length : Int) ≠ longZ (dTy B)
    · rw [if_pos c3] at d; omega
    rw [if_pos (by omega)]
  unfold mErr
  rw [d1, if_pos (by decide)]
theorem fcut_nf (dm : List Int → Msg) (em : List Int → Int) (m : Msg) (n : Int) (cap : Option Nat) (xs : List Int) (hm1 : inI64 m.h.fl = true) (hm2 : msgZ m = true) (hx : allByte xs = true) (hlx : xs.length ≤ 140737488351232)
    (hw : rightM m = true → allByte (msgBytes m) = true ∧ (msgBytes m).length ≤ 64 ∧ em (msgBytes m) = 0 ∧ (0 < xs.length → em (msgBytes m ++ xs) = 53)) :
    (fFn P (specsOf (cuU dm em)) (loopsOf []) Try.f7 [m.v, .int .i64 n, .sl 0 0 0 1 xs.length cap] [.ints .u8 xs]).denN = some (Res.nrm ⟨.bool true, [none], []⟩) := by
  rw [show (fFn P (specsOf (cuU dm em)) (loopsOf []) Try.f7 [m.v, .int .i64 n, .sl 0 0 0 1 xs.length cap] [.ints .u8 xs]).denN = Tree.denN (Tree.ite (inI64 m.h.3 && msgZ m) (Tree.ite (rightM m) (Tree.ite (decide (n < 0)) (Tree.leaf { v := V.bool true, upd := [none], new := [] }) (Tree.ite (decide (n ≥ (↑(msgBytes m).length : Int))) (Tree.leaf { v := V.bool true, upd := [none], new := [] }) (Tree.ite (decide ((↑xs.length : Int) < 1)) (Tree.leaf { v := V.bool true, upd := [none], new := [] }) (Tree.ite (true && decide (0 ≤ n) && decide (n ≤ (↑(msgBytes m).length : Int))) (Tree.ite (decide (n.toNat - 0 < (msgBytes m).length)) (Tree.ite (allByte (msgBytes m) && decide ((msgBytes m).length ≤ 9223372036854775806) && em (msgBytes m) == 0) (Tree.ite (true && decide (0 + (msgBytes m).length ≤ (msgBytes m).length)) (Tree.ite (decide ((List.take 0 (List.drop 0 []) ++ List.take (msgBytes m).length (List.drop 0 (msgBytes m))).length * 1 ≤ 140737488355328)) (Tree.ite (decide (0 + (List.take 0 (List.drop 0 []) ++ List.take (msgBytes m).length (List.drop 0 (msgBytes m))).length ≤ (List.take 0 (List.drop 0 []) ++ List.take (msgBytes m).length (List.drop 0 (msgBytes m))).length) && decide (0 + xs.length ≤ xs.length)) (Tree.ite (decide ((List.take (List.take 0 (List.drop 0 []) ++ List.take (msgBytes m).length (List.drop 0 (msgBytes m))).length (List.drop 0 (List.take 0 (List.drop 0 []) ++ List.take (msgBytes m).length (List.drop 0 (msgBytes m)))) ++ List.take xs.length (List.drop 0 xs)).length * 1 ≤ 140737488355328)) (Tree.ite (decide ((List.take (List.take 0 (List.drop 0 []) ++ List.take (msgBytes m).length (List.drop 0 (msgBytes m))).length (List.drop 0 (List.take 0 (List.drop 0 []) ++ List.take (msgBytes m).length (List.drop 0 (msgBytes m)))) ++ List.take xs.length (List.drop 0 xs)).length < (List.take (List.take 0 (List.drop 0 []) ++ List.take (msgBytes m).length (List.drop 0 (msgBytes m))).length (List.drop 0 (List.take 0 (List.drop 0 []) ++ List.take (msgBytes m).length (List.drop 0 (msgBytes m)))) ++ List.take xs.length (List.drop 0 xs)).length)) (Tree.ite (allByte (List.take (List.take 0 (List.drop 0 []) ++ List.take (msgBytes m).length (List.drop 0 (msgBytes m))).length (List.drop 0 (List.take 0 (List.drop 0 []) ++ List.take (msgBytes m).length (List.drop 0 (msgBytes m)))) ++ List.take xs.length (List.drop 0 xs)) && decide ((List.take (List.take 0 (List.drop 0 []) ++ List.take (msgBytes m).length (List.drop 0 (msgBytes m))).length (List.drop 0 (List.take 0 (List.drop 0 []) ++ List.take (msgBytes m).length (List.drop 0 (msgBytes m)))) ++ List.take xs.length (List.drop 0 xs)).length ≤ 9223372036854775806) && em (List.take (List.take 0 (List.drop 0 []) ++ List.take (msgBytes m).length (List.drop 0 (msgBytes m))).length (List.drop 0 (List.take 0 (List.drop 0 []) ++ List.take (msgBytes m).length (List.drop 0 (msgBytes m)))) ++ List.take xs.length (List.drop 0 xs)) == 0) (Tree.ite (cutErr (n.toNat - 0) == 50) (Tree.leaf { v := V.bool true, upd := [none], new := [] }) (Tree.ite (cutErr (n.toNat - 0) == 53) (Tree.leaf { v := V.bool true, upd := [none], new := [] }) (Tree.leaf { v := V.fls, upd := [none], new := [] }))) Tree.fail) (Tree.ite (allByte (List.take (List.take 0 (List.drop 0 []) ++ List.take (msgBytes m).length (List.drop 0 (msgBytes m))).length (List.drop 0 (List.take 0 (List.drop 0 []) ++ List.take (msgBytes m).length (List.drop 0 (msgBytes m)))) ++ List.take xs.length (List.drop 0 xs)) && decide ((List.take (List.take 0 (List.drop 0 []) ++ List.take (msgBytes m).length (List.drop 0 (msgBytes m))).length (List.drop 0 (List.take 0 (List.drop 0 []) ++ List.take (msgBytes m).length (List.drop 0 (msgBytes m)))) ++ List.take xs.length (List.drop 0 xs)).length = (List.take (List.take 0 (List.drop 0 []) ++ List.take (msgBytes m).length (List.drop 0 (msgBytes m))).length (List.drop 0 (List.take 0 (List.drop 0 []) ++ List.take (msgBytes m).length (List.drop 0 (msgBytes m)))) ++ List.take xs.length (List.drop 0 xs)).length) && decide ((List.take (List.take 0 (List.drop 0 []) ++ List.take (msgBytes m).length (List.drop 0 (msgBytes m))).length (List.drop 0 (List.take 0 (List.drop 0 []) ++ List.take (msgBytes m).length (List.drop 0 (msgBytes m)))) ++ List.take xs.length (List.drop 0 xs)).length ≤ 9223372036854775806)) (Tree.ite (em (List.take (List.take 0 (List.drop 0 []) ++ List.take (msgBytes m).length (List.drop 0 (msgBytes m))).length (List.drop 0 (List.take 0 (List.drop 0 []) ++ List.take (msgBytes m).length (List.drop 0 (msgBytes m)))) ++ List.take xs.length (List.drop 0 xs)) == 0) (Tree.ite (cutErr (n.toNat - 0) == 50) (Tree.leaf { v := V.fls, upd := [none], new := [] }) (Tree.ite (cutErr (n.toNat - 0) == 53) (Tree.leaf { v := V.fls, upd := [none], new := [] }) (Tree.leaf { v := V.fls, upd := [none], new := [] }))) (Tree.ite (cutErr (n.toNat - 0) == 50) (Tree.ite (em (List.take (List.take 0 (List.drop 0 []) ++ List.take (msgBytes m).length (List.drop 0 (msgBytes m))).length (List.drop 0 (List.take 0 (List.drop 0 []) ++ List.take (msgBytes m).length (List.drop 0 (msgBytes m)))) ++ List.take xs.length (List.drop 0 xs)) == 53) (Tree.leaf { v := V.bool true, upd := [none], new := [] }) (Tree.leaf { v := V.fls, upd := [none], new := [] })) (Tree.ite (cutErr (n.toNat - 0) == 53) (Tree.ite (em (List.take (List.take 0 (List.drop 0 []) ++ List.take (msgBytes m).length (List.drop 0 (msgBytes m))).length (List.drop 0 (List.take 0 (List.drop 0 []) ++ List.take (msgBytes m).length (List.drop 0 (msgBytes m)))) ++ List.take xs.length (List.drop 0 xs)) == 53) (Tree.leaf { v := V.bool true, upd := [none], new := [] }) (Tree.leaf { v := V.fls, upd := [none], new := [] })) (Tree.leaf { v := V.fls, upd := [none], new := [] })))) Tree.fail)) Tree.fail) Tree.fail) Tree.fail) Tree.fail) Tree.fail) (Tree.ite (allByte (msgBytes m) && decide (n.toNat - 0 = (msgBytes m).length) && decide ((msgBytes m).length ≤ 9223372036854775806)) (Tree.ite (em (msgBytes m) == 0) (Tree.ite (true && decide (0 + (msgBytes m).length ≤ (msgBytes m).length)) (Tree.ite (decide ((List.take 0 (List.drop 0 []) ++ List.take (msgBytes m).length (List.drop 0 (msgBytes m))).length * 1 ≤ 140737488355328)) (Tree.ite (decide (0 + (List.take 0 (List.drop 0 []) ++ List.take (msgBytes m).length (List.drop 0 (msgBytes m))).length ≤ (List.take 0 (List.drop 0 []) ++ List.take (msgBytes m).length (List.drop 0 (msgBytes m))).length) && decide (0 + xs.length ≤ xs.length)) (Tree.ite (decide ((List.take (List.take 0 (List.drop 0 []) ++ List.take (msgBytes m).length (List.drop 0 (msgBytes m))).length (List.drop 0 (List.take 0 (List.drop 0 []) ++ List.take (msgBytes m).length (List.drop 0 (msgBytes m)))) ++ List.take xs.length (List.drop 0 xs)).length * 1 ≤ 140737488355328)) (Tree.ite (decide ((List.take (List.take 0 (List.drop 0 []) ++ List.take (msgBytes m).length (List.drop 0 (msgBytes m))).length (List.drop 0 (List.take 0 (List.drop 0 []) ++ List.take (msgBytes m).length (List.drop 0 (msgBytes m)))) ++ List.take xs.length (List.drop 0 xs)).length < (List.take (List.take 0 (List.drop 0 []) ++ List.take (msgBytes m).length (List.drop 0 (msgBytes m))).length (List.drop 0 (List.take 0 (List.drop 0 []) ++ List.take (msgBytes m).length (List.drop 0 (msgBytes m)))) ++ List.take xs.length (List.drop 0 xs)).length)) (Tree.ite (allByte (List.take (List.take 0 (List.drop 0 []) ++ List.take (msgBytes m).length (List.drop 0 (msgBytes m))).length (List.drop 0 (List.take 0 (List.drop 0 []) ++ List.take (msgBytes m).length (List.drop 0 (msgBytes m)))) ++ List.take xs.length (List.drop 0 xs)) && decide ((List.take (List.take 0 (List.drop 0 []) ++ List.take (msgBytes m).length (List.drop 0 (msgBytes m))).length (List.drop 0 (List.take 0 (List.drop 0 []) ++ List.take (msgBytes m).length (List.drop 0 (msgBytes m)))) ++ List.take xs.length (List.drop 0 xs)).length ≤ 9223372036854775806) && em (List.take (List.take 0 (List.drop 0 []) ++ List.take (msgBytes m).length (List.drop 0 (msgBytes m))).length (List.drop 0 (List.take 0 (List.drop 0 []) ++ List.take (msgBytes m).length (List.drop 0 (msgBytes m)))) ++ List.take xs.length (List.drop 0 xs)) == 0) (Tree.leaf { v := V.fls, upd := [none], new := [] }) Tree.fail) (Tree.ite (allByte (List.take (List.take 0 (List.drop 0 []) ++ List.take (msgBytes m).length (List.drop 0 (msgBytes m))).length (List.drop 0 (List.take 0 (List.drop 0 []) ++ List.take (msgBytes m).length (List.drop 0 (msgBytes m)))) ++ List.take xs.length (List.drop 0 xs)) && decide ((List.take (List.take 0 (List.drop 0 []) ++ List.take (msgBytes m).length (List.drop 0 (msgBytes m))).length (List.drop 0 (List.take 0 (List.drop 0 []) ++ List.take (msgBytes m).length (List.drop 0 (msgBytes m)))) ++ List.take xs.length (List.drop 0 xs)).length = (List.take (List.take 0 (List.drop 0 []) ++ List.take (msgBytes m).length (List.drop 0 (msgBytes m))).length (List.drop 0 (List.take 0 (List.drop 0 []) ++ List.take (msgBytes m).length (List.drop 0 (msgBytes m)))) ++ List.take xs.length (List.drop 0 xs)).length) && decide ((List.take (List.take 0 (List.drop 0 []) ++ List.take (msgBytes m).length (List.drop 0 (msgBytes m))).length (List.drop 0 (List.take 0 (List.drop 0 []) ++ List.take (msgBytes m).length (List.drop 0 (msgBytes m)))) ++ List.take xs.length (List.drop 0 xs)).length ≤ 9223372036854775806)) (Tree.ite (em (List.take (List.take 0 (List.drop 0 []) ++ List.take (msgBytes m).length (List.drop 0 (msgBytes m))).length (List.drop 0 (List.take 0 (List.drop 0 []) ++ List.take (msgBytes m).length (List.drop 0 (msgBytes m)))) ++ List.take xs.length (List.drop 0 xs)) == 0) (Tree.leaf { v := V.fls, upd := [none], new := [] }) (Tree.leaf { v := V.fls, upd := [none], new := [] })) Tree.fail)) Tree.fail) Tree.fail) Tree.fail) Tree.fail) (Tree.ite (true && decide (0 + (msgBytes m).length ≤ (msgBytes m).length)) (Tree.ite (decide ((List.take 0 (List.drop 0 []) ++ List.take (msgBytes m).length (List.drop 0 (msgBytes m))).length * 1 ≤ 140737488355328)) (Tree.ite (decide (0 + (List.take 0 (List.drop 0 []) ++ List.take (msgBytes m).length (List.drop 0 (msgBytes m))).length ≤ (List.take 0 (List.drop 0 []) ++ List.take (msgBytes m).length (List.drop 0 (msgBytes m))).length) && decide (0 + xs.length ≤ xs.length)) (Tree.ite (decide ((List.take (List.take 0 (List.drop 0 []) ++ List.take (msgBytes m).length (List.drop 0 (msgBytes m))).length (List.drop 0 (List.take 0 (List.drop 0 []) ++ List.take (msgBytes m).length (List.drop 0 (msgBytes m)))) ++ List.take xs.length (List.drop 0 xs)).length * 1 ≤ 140737488355328)) (Tree.ite (decide ((List.take (List.take 0 (List.drop 0 []) ++ List.take (msgBytes m).length (List.drop 0 (msgBytes m))).length (List.drop 0 (List.take 0 (List.drop 0 []) ++ List.take (msgBytes m).length (List.drop 0 (msgBytes m)))) ++ List.take xs.length (List.drop 0 xs)).length < (List.take (List.take 0 (List.drop 0 []) ++ List.take (msgBytes m).length (List.drop 0 (msgBytes m))).length (List.drop 0 (List.take 0 (List.drop 0 []) ++ List.take (msgBytes m).length (List.drop 0 (msgBytes m)))) ++ List.take xs.length (List.drop 0 xs)).length)) (Tree.ite (allByte (List.take (List.take 0 (List.drop 0 []) ++ List.take (msgBytes m).length (List.drop 0 (msgBytes m))).length (List.drop 0 (List.take 0 (List.drop 0 []) ++ List.take (msgBytes m).length (List.drop 0 (msgBytes m)))) ++ List.take xs.length (List.drop 0 xs)) && decide ((List.take (List.take 0 (List.drop 0 []) ++ List.take (msgBytes m).length (List.drop 0 (msgBytes m))).length (List.drop 0 (List.take 0 (List.drop 0 []) ++ List.take (msgBytes m).length (List.drop 0 (msgBytes m)))) ++ List.take xs.length (List.drop 0 xs)).length ≤ 9223372036854775806) && em (List.take (List.take 0 (List.drop 0 []) ++ List.take (msgBytes m).length (List.drop 0 (msgBytes m))).length (List.drop 0 (List.take 0 (List.drop 0 []) ++ List.take (msgBytes m).length (List.drop 0 (msgBytes m)))) ++ List.take xs.length (List.drop 0 xs)) == 0) (Tree.ite (em (msgBytes m) == 50) (Tree.leaf { v := V.bool true, upd := [none], new := [] }) (Tree.ite (em (msgBytes m) == 53) (Tree.leaf { v := V.bool true, upd := [none], new := [] }) (Tree.leaf { v := V.fls, upd := [none], new := [] }))) Tree.fail) (Tree.ite (allByte (List.take (List.take 0 (List.drop 0 []) ++ List.take (msgBytes m).length (List.drop 0 (msgBytes m))).length (List.drop 0 (List.take 0 (List.drop 0 []) ++ List.take (msgBytes m).length (List.drop 0 (msgBytes m)))) ++ List.take xs.length (List.drop 0 xs)) && decide ((List.take (List.take 0 (List.drop 0 []) ++ List.take (msgBytes m).length (List.drop 0 (msgBytes m))).length (List.drop 0 (List.take 0 (List.drop 0 []) ++ List.take (msgBytes m).length (List.drop 0 (msgBytes m)))) ++ List.take xs.length (List.drop 0 xs)).length = (List.take (List.take 0 (List.drop 0 []) ++ List.take (msgBytes m).length (List.drop 0 (msgBytes m))).length (List.drop 0 (List.take 0 (List.drop 0 []) ++ List.take (msgBytes m).length (List.drop 0 (msgBytes m)))) ++ List.take xs.length (List.drop 0 xs)).length) && decide ((List.take (List.take 0 (List.drop 0 []) ++ List.take (msgBytes m).length (List.drop 0 (msgBytes m))).length (List.drop 0 (List.take 0 (List.drop 0 []) ++ List.take (msgBytes m).length (List.drop 0 (msgBytes m)))) ++ List.take xs.length (List.drop 0 xs)).length ≤ 9223372036854775806)) (Tree.ite (em (List.take (List.take 0 (List.drop 0 []) ++ List.take (msgBytes m).length (List.drop 0 (msgBytes m))).length (List.drop 0 (List.take 0 (List.drop 0 []) ++ List.take (msgBytes m).length (List.drop 0 (msgBytes m)))) ++ List.take xs.length (List.drop 0 xs)) == 0) (Tree.ite (em (msgBytes m) == 50) (Tree.leaf { v := V.fls, upd := [none], new := [] }) (Tree.ite (em (msgBytes m) == 53) (Tree.leaf { v := V.fls, upd := [none], new := [] }) (Tree.leaf { v := V.fls, upd := [none], new := [] }))) (Tree.ite (em (msgBytes m) == 50) (Tree.ite (em (List.take (List.take 0 (List.drop 0 []) ++ List.take (msgBytes m).length (List.drop 0 (msgBytes m))).length (List.drop 0 (List.take 0 (List.drop 0 []) ++ List.take (msgBytes m).length (List.drop 0 (msgBytes m)))) ++ List.take xs.length (List.drop 0 xs)) == 53) (Tree.leaf { v := V.bool true, upd := [none], new := [] }) (Tree.leaf { v := V.fls, upd := [none], new := [] })) (Tree.ite (em (msgBytes m) == 53) (Tree.ite (em (List.take (List.take 0 (List.drop 0 []) ++ List.take (msgBytes m).length (List.drop 0 (msgBytes m))).length (List.drop 0 (List.take 0 (List.drop 0 []) ++ List.take (msgBytes m).length (List.drop 0 (msgBytes m)))) ++ List.take xs.length (List.drop 0 xs)) == 53) (Tree.leaf { v := V.bool true, upd := [none], new := [] }) (Tree.leaf { v := V.fls, upd := [none], new := [] })) (Tree.leaf { v := V.fls, upd := [none], new := [] })))) Tree.fail)) Tree.fail) Tree.fail) Tree.fail) Tree.fail)) Tree.fail)) Tree.fail)))) (Tree.leaf { v := V.bool true, upd := [none], new := [] })) Tree.fail) from by kernel_rfl]
  cases h : rightM m with
  | false =>
    simp only [denN_ite, denN_leaf, denN_fail, hm1, hm2, h, Bool.and_true, if_true, Bool.false_eq_true, if_false]
  | true =>
    obtain ⟨hbb, hlen, h0, h53⟩ := hw h
    generalize msgBytes m = B at hbb hlen h0 h53 ⊢
    simp only [denN_ite, denN_leaf, denN_fail, hm1, hm2, h, Bool.and_true, if_true, List.take_zero, List.drop_zero, List.drop_nil, List.take_nil, List.nil_append, List.take_length, Msg.eqB_self, beq_self_eq_true]
    by_cases g1 : n < 0
    · rw [if_pos (by simpa using g1)]
    by_cases g2 : n ≥ (B.length : Int)
    · rw [if_neg (by simpa using g1), if_pos (by simpa using g2)]
    by_cases g3 : (xs.length : Int) < 1
    · rw [if_neg (by simpa using g1), if_neg (by simpa using g2), if_pos (by simpa using g3)]
    rw [if_neg (by simpa using g1), if_neg (by simpa using g2), if_neg (by simpa using g3)]
    have e53 := h53 (by omega)
    have c1 : (decide (0 ≤ n) && decide (n ≤ (B.length : Int))) = true := by
      rw [decide_eq_true (by omega), decide_eq_true (by omega)]; rfl
    have c2 : decide (n.toNat - 0 < B.length) = true := decide_eq_true (by omega)
    have c3 : decide (B.length ≤ 9223372036854775806) = true := decide_eq_true (by omega)
    have c4 : decide (0 + B.length ≤ B.length) = true := decide_eq_true (by omega)
    have c5 : decide (B.length * 1 ≤ 140737488355328) = true := decide_eq_true (by omega)
    have c6 : decide (0 + xs.length ≤ xs.length) = true := decide_eq_true (by omega)
    have c7 : decide ((B ++ xs).length * 1 ≤ 140737488355328) = true := decide_eq_true (by rw [List.length_append]; omega)
    have c8 : decide ((B ++ xs).length < (B ++ xs).length) = false := decide_eq_false (by omega)
    have c9 : decide ((B ++ xs).length ≤ 9223372036854775806) = true := decide_eq_true (by rw [List.length_append]; omega)
    have hc : cutErr (n.toNat - 0) = 50 ∨ cutErr (n.toNat - 0) = 53 := by unfold cutErr; split <;> simp
    have a1 : allByte (B ++ xs) = true := by rw [allByte_append, hbb, hx]; rfl
    rw [if_pos (by simpa using c1), if_pos c2, if_pos (by rw [hbb, c3, h0]; rfl), if_pos (by rw [c4]; rfl), if_pos c5, if_pos (by rw [c4, c6]; rfl), if_pos c7, if_neg (by rw [c8]; decide),
      if_pos (by rw [a1, c9]; simp), if_neg (by rw [e53]; decide), e53]
    rcases hc with hc | hc <;> rw [hc] <;> rfl
theorem fcut_ok : SpecOK P 7 fcutS := by
  refine specOK_fast cuU_ok hm (Λ := loopsOf []) Try.func7 (by kernel_rfl) (LoopsOK.nil (by kernel_rfl)) ?_
  intro args bs r h
  unfold fcutS at h
  split at h
  · rename_i v n l cap xs
    split at h
    · rename_i _ m hm'
      obtain rfl := Msg.of_eq hm'
      rw [den_need, den_need, den_leaf] at h
      obtain ⟨hf, hg, rfl⟩ := h
      simp only [Bool.and_eq_true, decide_eq_true_eq] at hf hg
      obtain ⟨⟨hx, rfl⟩, hl⟩ := hg
      refine fcut_nf dMsg mErr m n cap xs hf.1 hf.2 hx hl fun hr => ?_
      obtain ⟨w1, w2, w3, w4⟩ := written hr hf.2
      exact ⟨w3, msgBytes_le hr hf.2, w1, fun hp => err53 w3 w1 hp⟩
    · simp [den_fail] at h
  · simp [den_fail] at h
#print axioms fcut_ok
end Go.Proofs.Ythjldfmlclpdbaa
