/- Layer 20: which heads and messages may be, by the program and by the document. The conditions stand in the specifications. -/
import Derived.Test.YtkclmkjekllkiaaRxB
import Derived.KernelRfl
import Derived.Test.YtkclmkjekllkiaaChecked
set_option linter.unusedSimpArgs false
set_option linter.unusedVariables false
set_option linter.unnecessarySimpa false
set_option linter.unusedSectionVars false
set_option maxRecDepth 100000
set_option linter.unusedSimpArgs false
namespace Go.Proofs.Ytkclmkjekllkiaa
open Go.Rx
noncomputable abbrev P : Program := Try.prog
theorem hm : P.follows .mixedOrders = true := Try.checked.mixed


theorem resB {a b : Bool} {u : List (Option (Option Blk))} {n : List Blk} (h : a = b) : some (Res.nrm ⟨.bool a, u, n⟩) = some (Res.nrm ⟨.bool b, u, n⟩) := by rw [h]
theorem resF {b : Bool} {u : List (Option (Option Blk))} {n : List Blk} (h : b = false) : some (Res.nrm ⟨.fls, u, n⟩) = some (Res.nrm ⟨.bool b, u, n⟩) := by rw [h]; rfl
theorem resT {b : Bool} {u : List (Option (Option Blk))} {n : List Blk} (h : b = true) : some (Res.nrm ⟨.tru, u, n⟩) = some (Res.nrm ⟨.bool b, u, n⟩) := by rw [h]; rfl

/-! ### Lengths -/
def longZ (k : Int) : Int := if k = 0 ∨ k = 1 ∨ k = 8 then 44 else if k = 9 then 54 else if k = 11 then 64 else 0
def longS : Rx.Spec := fun a b => match a, b with
  | [.int .i64 k], [] => .leaf ⟨.int .i64 (longZ k), [], []⟩
  | _, _ => .fail

theorem long_ok : SpecOK P 47 longS := by
  refine specOK_fn (GammaOK.nil P) hm (Λ := loopsOf []) Try.func47 (by kernel_rfl) (LoopsOK.nil (by kernel_rfl)) ?_
  intro args bs r h
  unfold longS at h
  split at h
  · rename_i k
    rw [den_leaf] at h; subst h
    rw [show (evFn P (specsOf []) (loopsOf []) Try.f47 [V.int .i64 k] []).denN = Tree.denN (Tree.ite (decide (k < 0)) (Tree.leaf { v := V.int IntKind.i64 0, upd := [], new := [] })
  (Tree.ite (decide (k ≥ 12)) (Tree.leaf { v := V.int IntKind.i64 0, upd := [], new := [] })
    (Tree.ite (decide (0 ≤ k) && decide (k < 12))
      (Tree.ite (decide (k.toNat * 1 + 0 + 1 ≤ 12))
        (Tree.leaf
          { v := V.int IntKind.i64 ([44, 44, 0, 0, 0, 0, 0, 0, 44, 54, 0, 64].getD k.toNat 0), upd := [], new := [] })
        Tree.fail)
      Tree.fail))) from by kernel_rfl]
    simp only [denN_ite, denN_leaf, denN_fail]
    unfold longZ
    by_cases h0 : k < 0
    · rw [if_pos (by simpa using h0), if_neg (by omega), if_neg (by omega), if_neg (by omega)]
    · by_cases h1 : 12 ≤ k
      · rw [if_neg (by simpa using h0), if_pos (by simpa using h1), if_neg (by omega), if_neg (by omega), if_neg (by omega)]
      · rw [if_neg (by simpa using h0), if_neg (by simpa using h1), if_pos (by simp; omega), if_pos (by simp; omega)]
        obtain ⟨n, rfl⟩ := Int.eq_ofNat_of_zero_le (Int.not_lt.1 h0)
        have : n < 12 := by omega
        rcases n with _ | _ | _ | _ | _ | _ | _ | _ | _ | _ | _ | _ | n <;> first | rfl | omega
  · simp [den_fail] at h

theorem refLong_ok : SpecOK P 52 longS := by
  refine specOK_fn (GammaOK.nil P) hm (Λ := loopsOf []) Try.func52 (by kernel_rfl) (LoopsOK.nil (by kernel_rfl)) ?_
  intro args bs r h
  unfold longS at h
  split at h
  · rename_i k
    rw [den_leaf] at h; subst h
    rw [show (evFn P (specsOf []) (loopsOf []) Try.f52 [V.int .i64 k] []).denN = Tree.denN (Tree.ite (k == 0) (Tree.leaf { v := V.int IntKind.i64 44, upd := [], new := [] })
  (Tree.ite (k == 1) (Tree.leaf { v := V.int IntKind.i64 44, upd := [], new := [] })
    (Tree.ite (k == 8) (Tree.leaf { v := V.int IntKind.i64 44, upd := [], new := [] })
      (Tree.ite (k == 9) (Tree.leaf { v := V.int IntKind.i64 54, upd := [], new := [] })
        (Tree.ite (k == 11) (Tree.leaf { v := V.int IntKind.i64 64, upd := [], new := [] })
          (Tree.leaf { v := V.int IntKind.i64 0, upd := [], new := [] })))))) from by kernel_rfl]
    simp only [denN_ite, denN_leaf, denN_fail, beq_iff_eq]
    unfold longZ
    by_cases h0 : k = 0
    · simp [h0]
    by_cases h1 : k = 1
    · simp [h1]
    by_cases h2 : k = 8
    · simp [h2]
    simp only [h0, h1, h2, or_self, if_false]
    split
    · rfl
    · split <;> rfl
  · simp [den_fail] at h

/-! ### Flags -/
def inI64 (n : Int) : Bool := decide (-9223372036854775808 ≤ n) && decide (n ≤ 9223372036854775807)
def flagsB (k f : Int) : Bool := if k = 0 then f == 0 || f == 512 else if k = 11 then decide (0 ≤ f) && decide (f ≤ 63) else f == 0
def flagsS : Rx.Spec := fun a b => match a, b with
  | [.int .i64 k, .int .i64 f], [] => .need (inI64 f) (.leaf ⟨.bool (flagsB k f), [], []⟩)
  | _, _ => .fail

theorem flagged_ok : SpecOK P 48 flagsS := by
  refine specOK_fn (GammaOK.nil P) hm (Λ := loopsOf []) Try.func48 (by kernel_rfl) (LoopsOK.nil (by kernel_rfl)) ?_
  intro args bs r h
  unfold flagsS at h
  split at h
  · rename_i k f
    rw [den_need, den_leaf] at h
    obtain ⟨hf, rfl⟩ := h
    simp only [inI64, Bool.and_eq_true, decide_eq_true_eq] at hf
    rw [show (evFn P (specsOf []) (loopsOf []) Try.f48 [V.int .i64 k, V.int .i64 f] []).denN = Tree.denN (Tree.ite (k == 0) (Tree.leaf { v := V.bool (bAndNot IntKind.i64 f 512 == 0), upd := [], new := [] })
  (Tree.ite (k == 11) (Tree.leaf { v := V.bool (bAndNot IntKind.i64 f 63 == 0), upd := [], new := [] })
    (Tree.leaf { v := V.bool (f == 0), upd := [], new := [] }))) from by kernel_rfl]
    simp only [denN_ite, denN_leaf, denN_fail, beq_iff_eq]
    have e1 : (bAndNot .i64 f 512 == 0) = (f == 0 || f == 512) := andNot_bit f 9 (by omega) hf.1 hf.2
    have e2 : (bAndNot .i64 f 63 == 0) = (decide (0 ≤ f) && decide (f ≤ 63)) := andNot_low f 6 (by omega) hf.1 hf.2
    rw [e1, e2]
    unfold flagsB
    split
    · rfl
    · split <;> rfl
  · simp [den_fail] at h

theorem refFlags_ok : SpecOK P 53 flagsS := by
  refine specOK_fn (GammaOK.nil P) hm (Λ := loopsOf []) Try.func53 (by kernel_rfl) (LoopsOK.nil (by kernel_rfl)) ?_
  intro args bs r h
  unfold flagsS at h
  split at h
  · rename_i k f
    rw [den_need, den_leaf] at h
    obtain ⟨hf, rfl⟩ := h
    rw [show (evFn P (specsOf []) (loopsOf []) Try.f53 [V.int .i64 k, V.int .i64 f] []).denN = Tree.denN (Tree.ite (k == 0)
  (Tree.ite (f == 0) (Tree.leaf { v := V.tru, upd := [], new := [] })
    (Tree.leaf { v := V.bool (f == 512), upd := [], new := [] }))
  (Tree.ite (k == 11)
    (Tree.ite (decide (f ≥ 0)) (Tree.leaf { v := V.bool (decide (f ≤ 63)), upd := [], new := [] })
      (Tree.leaf { v := V.fls, upd := [], new := [] }))
    (Tree.leaf { v := V.bool (f == 0), upd := [], new := [] }))) from by kernel_rfl]
    simp only [denN_ite, denN_leaf, denN_fail, beq_iff_eq, decide_eq_true_eq]
    unfold flagsB
    split
    · split
      · rename_i h; simp [h, Res.nrm, nrm]
      · rename_i h; simp [h, Res.nrm, nrm]
    · split
      · split
        · rename_i h; simp [h, Res.nrm, nrm]
        · rename_i h; simp [Res.nrm, nrm]; omega
      · rfl
  · simp [den_fail] at h

/-! ### Ports, numbers -/
def sourcedB (n : Int) : Bool := decide (1 ≤ n) && decide (n < 65535)
def sourcedS : Rx.Spec := fun a b => match a, b with
  | [.agg [_, _, _, _, _, _, _, _, .int .i64 n]], [] => .leaf ⟨.bool (sourcedB n), [], []⟩
  | _, _ => .fail

theorem sourced_ok : SpecOK P 49 sourcedS := by
  refine specOK_fn (GammaOK.nil P) hm (Λ := loopsOf []) Try.func49 (by kernel_rfl) (LoopsOK.nil (by kernel_rfl)) ?_
  intro args bs r h
  unfold sourcedS at h
  split at h
  · rename_i a1 a2 a3 a4 a5 a6 a7 a8 n
    rw [den_leaf] at h; subst h
    rw [show (evFn P (specsOf []) (loopsOf []) Try.f49 [.agg [a1, a2, a3, a4, a5, a6, a7, a8, .int .i64 n]] []).denN = Tree.denN (Tree.ite (decide (n ≥ 1)) (Tree.leaf { v := V.bool (decide (n < 65535)), upd := [], new := [] })
  (Tree.leaf { v := V.fls, upd := [], new := [] })) from by kernel_rfl]
    simp only [denN_ite, denN_leaf, denN_fail, decide_eq_true_eq]
    unfold sourcedB
    split
    · rename_i h; simp [Res.nrm, nrm]; omega
    · rename_i h; simp [Res.nrm, nrm]; omega
  · simp [den_fail] at h

def nextZ (s : Int) : Int := if 0 ≤ s ∧ s < 65535 then s + 1 else 0
def nextS : Rx.Spec := fun a b => match a, b with
  | [.int .i64 s], [] => .leaf ⟨.int .i64 (nextZ s), [], []⟩
  | _, _ => .fail

def behindB (s t : Int) : Bool := decide (0 ≤ s) && decide (s ≤ 65535) && decide (0 ≤ t) && decide (t ≤ 65535) && decide (1 ≤ (s - t) % 65536) && decide ((s - t) % 65536 ≤ 32767)
def behindS : Rx.Spec := fun a b => match a, b with
  | [.int .i64 s, .int .i64 t], [] => .leaf ⟨.bool (behindB s t), [], []⟩
  | _, _ => .fail

end Go.Proofs.Ytkclmkjekllkiaa

set_option maxRecDepth 100000
set_option linter.unusedSimpArgs false
namespace Go.Proofs.Ytkclmkjekllkiaa
open Go.Rx

/-! ### Which heads may be -/
structure Hd where
  ty : Int
  dom : Int
  fl : Int
  co : Int
  c : List Int
  num : Int
  se : Int
  lo : Int

def rightB (ty dom fl n se lo : Int) : Bool :=
  decide (0 < longZ ty) && decide (0 ≤ dom) && decide (dom ≤ 255) && flagsB ty fl && sourcedB n && decide (0 ≤ se) && decide (se ≤ 65535) && decide (-128 ≤ lo) && decide (lo ≤ 127)
def rightS : Rx.Spec := fun a b => match a, b with
  | [.agg [.int .i64 ty, .int .i64 dom, .int .i64 fl, .int .i64 _, .int .u8 _, .int .u8 _, .int .u8 _, .int .u8 _, .int .u8 _, .int .u8 _, .int .u8 _, .int .u8 _, .int .i64 n, .int .i64 se, .int .i64 lo]], [] => .need (inI64 fl) (.leaf ⟨.bool (rightB ty dom fl n se lo), [], []⟩)
  | _, _ => .fail

theorem right_G : GammaOK P [(47, longS), (48, flagsS), (49, sourcedS)] := .cons long_ok (.cons flagged_ok (.cons sourced_ok (.nil P)))

theorem right_ok : SpecOK P 34 rightS := by
  refine specOK_fast right_G hm (Λ := loopsOf []) Try.func34 (by kernel_rfl) (LoopsOK.nil (by kernel_rfl)) ?_
  intro args bs r h
  unfold rightS at h
  split at h
  · rename_i ty dom fl co a1 a2 a3 a4 a5 a6 a7 a8 n se lo
    rw [den_need, den_leaf] at h
    obtain ⟨hf, rfl⟩ := h
    rw [show (fFn P (specsOf [(47, longS), (48, flagsS), (49, sourcedS)]) (loopsOf []) Try.f34 [.agg [.int .i64 ty, .int .i64 dom, .int .i64 fl, .int .i64 co, .int .u8 a1, .int .u8 a2, .int .u8 a3, .int .u8 a4, .int .u8 a5, .int .u8 a6, .int .u8 a7, .int .u8 a8, .int .i64 n, .int .i64 se, .int .i64 lo]] []).denN = Tree.denN (Tree.ite (decide (longZ ty > 0))
  (Tree.ite (decide (dom ≥ 0))
    (Tree.ite (decide (dom ≤ 255))
      (Tree.ite (inI64 fl)
        (Tree.ite (flagsB ty fl)
          (Tree.ite (sourcedB n)
            (Tree.ite (decide (se ≥ 0))
              (Tree.ite (decide (se ≤ 65535))
                (Tree.ite (decide (lo ≥ -128)) (Tree.leaf { v := V.bool (decide (lo ≤ 127)), upd := [], new := [] })
                  (Tree.leaf { v := V.fls, upd := [], new := [] }))
                (Tree.leaf { v := V.fls, upd := [], new := [] }))
              (Tree.leaf { v := V.fls, upd := [], new := [] }))
            (Tree.leaf { v := V.fls, upd := [], new := [] }))
          (Tree.leaf { v := V.fls, upd := [], new := [] }))
        Tree.fail)
      (Tree.leaf { v := V.fls, upd := [], new := [] }))
    (Tree.leaf { v := V.fls, upd := [], new := [] }))
  (Tree.leaf { v := V.fls, upd := [], new := [] })) from by kernel_rfl]
    simp only [denN_ite, denN_leaf, denN_fail, hf, if_true]
    unfold rightB
    by_cases h1 : 0 < longZ ty
    · by_cases h2 : 0 ≤ dom
      · by_cases h3 : dom ≤ 255
        · cases h4 : flagsB ty fl
          · simp [h1, h2, h3, Res.nrm, nrm]
          · cases h5 : sourcedB n
            · simp [h1, h2, h3, Res.nrm, nrm]
            · by_cases h6 : 0 ≤ se
              · by_cases h7 : se ≤ 65535
                · by_cases h8 : -128 ≤ lo
                  · simp [h1, h2, h3, h6, h7, h8, Res.nrm, nrm]
                  · simp [h1, h2, h3, h6, h7, h8, Res.nrm, nrm]
                · simp [h1, h2, h3, h6, h7, Res.nrm, nrm]
              · simp [h1, h2, h3, h6, Res.nrm, nrm]
        · simp [h1, h2, h3, Res.nrm, nrm]
      · simp [h1, h2, Res.nrm, nrm]
    · simp [h1, Res.nrm, nrm]
  · simp [den_fail] at h

theorem refRight_G : GammaOK P [(52, longS), (53, flagsS)] := .cons refLong_ok (.cons refFlags_ok (.nil P))
theorem longZ_nonneg (k : Int) : 0 ≤ longZ k := by unfold longZ; split <;> (try split) <;> (try split) <;> omega

theorem refRight_ok : SpecOK P 43 rightS := by
  refine specOK_fast refRight_G hm (Λ := loopsOf []) Try.func43 (by kernel_rfl) (LoopsOK.nil (by kernel_rfl)) ?_
  intro args bs r h
  unfold rightS at h
  split at h
  · rename_i ty dom fl co a1 a2 a3 a4 a5 a6 a7 a8 n se lo
    rw [den_need, den_leaf] at h
    obtain ⟨hf, rfl⟩ := h
    rw [show (fFn P (specsOf [(52, longS), (53, flagsS)]) (loopsOf []) Try.f43 [.agg [.int .i64 ty, .int .i64 dom, .int .i64 fl, .int .i64 co, .int .u8 a1, .int .u8 a2, .int .u8 a3, .int .u8 a4, .int .u8 a5, .int .u8 a6, .int .u8 a7, .int .u8 a8, .int .i64 n, .int .i64 se, .int .i64 lo]] []).denN = Tree.denN (Tree.ite (longZ ty == 0) (Tree.leaf { v := V.fls, upd := [], new := [] })
  (Tree.ite (decide (dom < 0)) (Tree.leaf { v := V.fls, upd := [], new := [] })
    (Tree.ite (decide (dom > 255)) (Tree.leaf { v := V.fls, upd := [], new := [] })
      (Tree.ite (inI64 fl)
        (Tree.ite (!flagsB ty fl) (Tree.leaf { v := V.fls, upd := [], new := [] })
          (Tree.ite (decide (n < 1)) (Tree.leaf { v := V.fls, upd := [], new := [] })
            (Tree.ite (decide (n > 65534)) (Tree.leaf { v := V.fls, upd := [], new := [] })
              (Tree.ite (decide (se < 0)) (Tree.leaf { v := V.fls, upd := [], new := [] })
                (Tree.ite (decide (se > 65535)) (Tree.leaf { v := V.fls, upd := [], new := [] })
                  (Tree.ite (decide (lo ≥ -128)) (Tree.leaf { v := V.bool (decide (lo ≤ 127)), upd := [], new := [] })
                    (Tree.leaf { v := V.fls, upd := [], new := [] })))))))
        Tree.fail)))) from by kernel_rfl]
    simp only [denN_ite, denN_leaf, denN_fail, hf, if_true]
    have hl := longZ_nonneg ty
    unfold rightB sourcedB
    by_cases h1 : 0 < longZ ty
    · have h1' : (longZ ty == 0) = false := by simp; omega
      by_cases h2 : 0 ≤ dom
      · by_cases h3 : dom ≤ 255
        · cases h4 : flagsB ty fl
          · simp [h1, h1', h2, h3, Res.nrm, nrm]
          · by_cases h5 : 1 ≤ n
            · by_cases h5' : n < 65535
              · by_cases h6 : 0 ≤ se
                · by_cases h7 : se ≤ 65535
                  · have a1 : ¬ dom < 0 := by omega
                    have a2 : ¬ dom > 255 := by omega
                    have a3 : ¬ n < 1 := by omega
                    have a4 : ¬ n > 65534 := by omega
                    have a5 : ¬ se < 0 := by omega
                    have a6 : ¬ se > 65535 := by omega
                    by_cases h8 : -128 ≤ lo
                    · simp [h1, h1', h2, h3, h5, h5', h6, h7, h8, a1, a2, a3, a4, a5, a6, Res.nrm, nrm]
                    · simp [h1, h1', h2, h3, h5, h5', h6, h7, h8, a1, a2, a3, a4, a5, a6, Res.nrm, nrm]
                  · have a1 : ¬ dom < 0 := by omega
                    have a2 : ¬ dom > 255 := by omega
                    have a3 : ¬ n < 1 := by omega
                    have a4 : ¬ n > 65534 := by omega
                    have a6 : se > 65535 := by omega
                    simp [h1, h1', h2, h3, h5, h5', h6, h7, a1, a2, a3, a4, a6, Res.nrm, nrm]
                · have a1 : ¬ dom < 0 := by omega
                  have a2 : ¬ dom > 255 := by omega
                  have a3 : ¬ n < 1 := by omega
                  have a4 : ¬ n > 65534 := by omega
                  have a5 : se < 0 := by omega
                  simp [h1, h1', h2, h3, h5, h5', h6, a1, a2, a3, a4, a5, Res.nrm, nrm]
              · have a1 : ¬ dom < 0 := by omega
                have a2 : ¬ dom > 255 := by omega
                have a3 : ¬ n < 1 := by omega
                have a4 : n > 65534 := by omega
                simp [h1, h1', h2, h3, h5, h5', a1, a2, a3, a4, Res.nrm, nrm]
            · have a1 : ¬ dom < 0 := by omega
              have a2 : ¬ dom > 255 := by omega
              have a3 : n < 1 := by omega
              simp [h1, h1', h2, h3, h5, a1, a2, a3, Res.nrm, nrm]
        · have a2 : dom > 255 := by omega
          simp [h1, h1', h2, h3, a2, Res.nrm, nrm]
      · have a2 : dom < 0 := by omega
        simp [h1, h1', h2, a2, Res.nrm, nrm]
    · have h1' : (longZ ty == 0) = true := by simp; omega
      simp [h1, h1', Res.nrm, nrm]
  · simp [den_fail] at h

/-! ### Ports -/
def byteZ (n : Int) : Bool := decide (0 ≤ n) && decide (n ≤ 255)
def putS : Rx.Spec := fun a b => match a, b with
  | [.agg [.int .u8 c0, .int .u8 c1, .int .u8 c2, .int .u8 c3, .int .u8 c4, .int .u8 c5, .int .u8 c6, .int .u8 c7, .int .i64 n]], [] =>
    .need (decide (0 ≤ n) && decide (n ≤ 65535)) (.leaf ⟨.tup [.sl 0 0 0 1 10 none, .tru], [], [.ints .u8 [c0, c1, c2, c3, c4, c5, c6, c7, n / 256, n % 256]]⟩)
  | _, _ => .fail

end Go.Proofs.Ytkclmkjekllkiaa

set_option maxRecDepth 100000
set_option linter.unusedSimpArgs false
set_option linter.unusedVariables false
namespace Go.Proofs.Ytkclmkjekllkiaa
open Go.Rx

def stmB (t : Stm) : Bool := decide (0 ≤ t.sec) && decide (t.sec ≤ 281474976710655) && decide (0 ≤ t.ns) && decide (t.ns ≤ 999999999)
def stmS : Rx.Spec := fun a b => match a, b with
  | [v], [] => match Stm.of v with
    | some t => .leaf ⟨.bool (stmB t), [], []⟩
    | none => .fail
  | _, _ => .fail
theorem stm_ok : SpecOK P 35 stmS := by
  refine specOK_fast (GammaOK.nil P) hm (Λ := loopsOf []) Try.func35 (by kernel_rfl) (LoopsOK.nil (by kernel_rfl)) ?_
  intro args bs r h
  unfold stmS at h
  split at h
  · split at h
    · rename_i v t ht
      rw [Stm.of_eq ht]
      rw [den_leaf] at h; subst h
      rw [show (fFn P (specsOf []) (loopsOf []) Try.f35 [t.v] []).denN = Tree.denN (Tree.ite (decide (t.1 ≥ 0))
  (Tree.ite (decide (t.1 < 281474976710656))
    (Tree.ite (decide (t.2 ≥ 0)) (Tree.leaf { v := V.bool (decide (t.2 < 1000000000)), upd := [], new := [] })
      (Tree.leaf { v := V.fls, upd := [], new := [] }))
    (Tree.leaf { v := V.fls, upd := [], new := [] }))
  (Tree.leaf { v := V.fls, upd := [], new := [] })) from by kernel_rfl]
      simp only [denN_ite, denN_leaf, denN_fail, nrmF, nrmT, iteR]
      refine resB ?_
      simp only [stmB, iteF, iteT, iteN]
      rw [Bool.eq_iff_iff]
      simp only [Bool.and_eq_true, Bool.or_eq_true, Bool.not_eq_true', decide_eq_true_eq, decide_eq_false_iff_not, beq_iff_eq, bne_iff_ne, ne_eq]
      omega
    · simp [den_fail] at h
  · simp [den_fail] at h
theorem refStm_ok : SpecOK P 44 stmS := by
  refine specOK_fast (GammaOK.nil P) hm (Λ := loopsOf []) Try.func44 (by kernel_rfl) (LoopsOK.nil (by kernel_rfl)) ?_
  intro args bs r h
  unfold stmS at h
  split at h
  · split at h
    · rename_i v t ht
      rw [Stm.of_eq ht]
      rw [den_leaf] at h; subst h
      rw [show (fFn P (specsOf []) (loopsOf []) Try.f44 [t.v] []).denN = Tree.denN (Tree.ite (decide (t.1 ≥ 0))
  (Tree.ite (decide (t.1 ≤ 281474976710655))
    (Tree.ite (decide (t.2 ≥ 0)) (Tree.leaf { v := V.bool (decide (t.2 ≤ 999999999)), upd := [], new := [] })
      (Tree.leaf { v := V.fls, upd := [], new := [] }))
    (Tree.leaf { v := V.fls, upd := [], new := [] }))
  (Tree.leaf { v := V.fls, upd := [], new := [] })) from by kernel_rfl]
      simp only [denN_ite, denN_leaf, denN_fail, nrmF, nrmT, iteR]
      refine resB ?_
      simp only [stmB, iteF, iteT, iteN]
      rw [Bool.eq_iff_iff]
      simp only [Bool.and_eq_true, Bool.or_eq_true, Bool.not_eq_true', decide_eq_true_eq, decide_eq_false_iff_not, beq_iff_eq, bne_iff_ne, ne_eq]
      omega
    · simp [den_fail] at h
  · simp [den_fail] at h
end Go.Proofs.Ytkclmkjekllkiaa

set_option maxRecDepth 100000
set_option linter.unusedSimpArgs false
set_option linter.unusedVariables false
namespace Go.Proofs.Ytkclmkjekllkiaa
open Go.Rx

def inB (top n : Int) : Bool := decide (0 ≤ n) && decide (n ≤ top)
def withF (vals : List V) (bs : List Blk) : Tree LRes := match vals, bs with
  | [.int .i64 top, .sl 0 0 0 1 l cap, .int .i64 len, .int .i64 k], [.ints .i64 xs] =>
    .need (decide (len = l) && decide (l = xs.length) && decide (0 ≤ k) && decide (k ≤ l) && decide (l ≤ 9223372036854775806))
      (.ite ((xs.drop k.toNat).all (inB top)) (.leaf ⟨.exit 0, [.any], [none], []⟩) (.leaf ⟨.ret, [.fls], [none], []⟩))
  | _, _ => .fail
def withL : LSpec := ⟨21, [0, 7, 8, 9], [4], withF⟩
theorem with_rounds (top : Int) (cap : Option Nat) (xs : List Int) (hl : xs.length ≤ 9223372036854775806) : ∀ (m k : Nat), m + k = xs.length →
    (loopN P (specsOf []) (loopsOf []) 21 [0, 7, 8, 9] [4] (loopAt Try.f50 0) (m + 1) [.int .i64 top, .sl 0 0 0 1 xs.length cap, .int .i64 xs.length, .int .i64 k] [.ints .i64 xs]).den =
      some (if (xs.drop k).all (inB top) then ⟨.exit 0, [.any], [none], []⟩ else ⟨.ret, [.fls], [none], []⟩) := by
  have round : ∀ (top len k : Int) (l : Nat), (evRound P (specsOf []) (loopsOf []) 21 [0, 7, 8, 9] [4] (loopAt Try.f50 0) [.int .i64 top, .sl 0 0 0 1 l cap, .int .i64 len, .int .i64 k] [.ints .i64 xs]).den = Tree.den (Tree.ite (decide (k < len)) (Tree.ite (decide (0 ≤ k) && decide (k < (↑l : Int))) (Tree.ite (decide (0 + k.toNat + 1 ≤ xs.length)) (Tree.ite (decide (xs.getD (0 + k.toNat + 0) 0 < 0)) (Tree.leaf { e := Ex.ret, vs := [V.fls], upd := [none], new := [] }) (Tree.ite (decide (xs.getD (0 + k.toNat + 0) 0 > top)) (Tree.leaf { e := Ex.ret, vs := [V.fls], upd := [none], new := [] }) (Tree.leaf { e := Ex.nrm, vs := [V.int IntKind.i64 top, V.sl 0 0 0 1 l cap, V.int IntKind.i64 len, V.int IntKind.i64 (IntKind.i64.wrap (k + 1))], upd := [none], new := [] }))) Tree.fail) Tree.fail) (Tree.leaf { e := Ex.exit 0, vs := [V.any], upd := [none], new := [] })) := by
    intro top len k l
    kernel_rfl
  intro m
  induction m with
  | zero =>
    intro k hk
    have hr := round top xs.length k xs.length
    rw [show decide ((k : Int) < (xs.length : Int)) = false by simp; omega] at hr
    simp only [denI, denLf, denFl, Bool.false_eq_true, if_false] at hr
    rw [List.drop_of_length_le (by omega), List.all_nil, if_pos rfl]
    exact loopN_end hr (by simp)
  | succ m ih =>
    intro k hk
    have hr := round top xs.length k xs.length
    rw [show decide ((k : Int) < (xs.length : Int)) = true by simp; omega, show decide (0 ≤ (k : Int)) = true by simp, show decide (0 + (k : Int).toNat + 1 ≤ xs.length) = true by simp; omega, wrap64_id (n := (k : Int) + 1) (by omega) (by omega),
      Nat.zero_add, Nat.add_zero, Int.toNat_natCast] at hr
    simp only [denI, denLf, denFl, if_true, Bool.and_self, decide_eq_true_eq] at hr
    rw [drop_getD (show k < xs.length by omega), List.all_cons]
    generalize xs.getD k 0 = y at *
    by_cases h1 : y < 0
    · rw [if_pos h1] at hr
      rw [show inB top y = false by simp [inB]; omega, Bool.false_and, if_neg (by simp)]
      exact loopN_end hr (by simp)
    · by_cases h2 : y > top
      · rw [if_neg h1, if_pos h2] at hr
        rw [show inB top y = false by simp [inB]; omega, Bool.false_and, if_neg (by simp)]
        exact loopN_end hr (by simp)
      · rw [if_neg h1, if_neg h2] at hr
        rw [show inB top y = true by simp [inB]; omega, Bool.true_and]
        have ih' := ih (k + 1) (by omega)
        refine loopN_step hr rfl (vals' := [.int .i64 top, .sl 0 0 0 1 xs.length cap, .int .i64 xs.length, .int .i64 ((k + 1 : Nat) : Int)]) (bs' := [.ints .i64 xs]) (by kernel_rfl) ?_ (by kernel_rfl) ih' ?_
        · rw [show ((k + 1 : Nat) : Int) = (k : Int) + 1 by omega]
          kernel_rfl
        · cases (xs.drop (k + 1)).all (inB top) <;> kernel_rfl
theorem with_loop : LoopOK P (loopAt Try.f50 0) withL := by
  refine loop_ok (GammaOK.nil P) hm (Λ := loopsOf []) (LoopsOK.nil (by kernel_rfl)) _ ?_
  intro vals bs r h
  simp only [withL, withF] at h
  split at h
  · rename_i top l cap len k xs
    rw [den_need] at h
    simp only [Bool.and_eq_true, decide_eq_true_eq] at h
    obtain ⟨⟨⟨⟨⟨h1, h2⟩, h3⟩, h4⟩, h5⟩, h⟩ := h
    subst h1 h2
    refine ⟨(xs.length - k.toNat) + 1, ?_⟩
    have := with_rounds top cap xs h5 (xs.length - k.toNat) k.toNat (by omega)
    rw [Int.toNat_of_nonneg h3] at this
    refine this.trans ?_
    rw [← h, denI, denLf, denLf]
    split <;> rfl
  · simp [den_fail] at h

def withinS : Rx.Spec := fun a b => match a, b with
  | [.int .i64 top, .sl 0 0 0 1 l cap], [.ints .i64 xs] => .need (decide (l = xs.length) && decide (l ≤ 9223372036854775806)) (.leaf ⟨.bool (xs.all (inB top)), [none], []⟩)
  | _, _ => .fail
theorem within_ok : SpecOK P 50 withinS := by
  refine specOK_fast (GammaOK.nil P) hm (Λ := loopsOf [(firstRegion (loopAt Try.f50 0), withL)]) Try.func50 (by kernel_rfl) (LoopsOK.one (by kernel_rfl) with_loop) ?_
  intro args bs r h
  unfold withinS at h
  split at h
  · rename_i top l cap xs
    rw [den_need, den_leaf] at h
    obtain ⟨hf, rfl⟩ := h
    simp only [Bool.and_eq_true, decide_eq_true_eq] at hf
    obtain ⟨rfl, hl⟩ := hf
    rw [show (fFn P (specsOf []) (loopsOf [(firstRegion (loopAt Try.f50 0), withL)]) Try.f50 [.int .i64 top, .sl 0 0 0 1 xs.length cap] [.ints .i64 xs]).denN = Tree.denN (Tree.ite (decide ((↑xs.length : Int) = (↑xs.length : Int)) && decide (xs.length = xs.length) && true && true && decide (xs.length ≤ 9223372036854775806)) (Tree.ite ((List.drop 0 xs).all (inB top)) (Tree.leaf { v := V.tru, upd := [none], new := [] }) (Tree.leaf { v := V.fls, upd := [none], new := [] })) Tree.fail) from by kernel_rfl]
    simp only [denN_ite, denN_leaf, denN_fail]
    rw [if_pos (by simpa using hl), List.drop_zero, nrmF, nrmT, iteR]
    exact resB (by cases xs.all (inB top) <;> rfl)
  · simp [den_fail] at h

noncomputable def zeroS : Rx.Spec := fFn P (specsOf []) (loopsOf []) Try.f51
theorem zero_ok : SpecOK P 51 zeroS := inl_ok (GammaOK.nil P) hm Try.func51 (by kernel_rfl) (LoopsOK.nil (by kernel_rfl))
theorem ann_G : GammaOK P [(50, withinS), (51, zeroS)] := .cons within_ok (.cons zero_ok (.nil P))
def annB (m : Msg) : Bool := decide (-32768 ≤ m.off) && decide (m.off ≤ 32767) && (inB 255 m.set.p1 && inB 255 m.set.p2 && inB 255 m.set.q.cl && inB 255 m.set.q.ac && inB 255 m.src) && (inB 65535 m.set.q.va && inB 65535 m.set.st) &&
  !(Ck.eqB m.set.g Ck.zero) && Prt.eqB m.set.snd m.h.src && Prt.eqB m.set.rcv Prt.zero
def annS : Rx.Spec := fun a b => match a, b with
  | [v], [] => match Msg.of v with
    | some m => .leaf ⟨.bool (annB m), [], []⟩
    | none => .fail
  | _, _ => .fail
theorem ann_ok : SpecOK P 36 annS := by
  refine specOK_fast ann_G hm (Λ := loopsOf []) Try.func36 (by kernel_rfl) (LoopsOK.nil (by kernel_rfl)) ?_
  intro args bs r h
  unfold annS at h
  split at h
  · split at h
    · rename_i v m hm'
      rw [Msg.of_eq hm']
      rw [den_leaf] at h; subst h
      rw [show (fFn P (specsOf [(50, withinS), (51, zeroS)]) (loopsOf []) Try.f36 [m.v] []).denN = Tree.denN (Tree.ite (decide (m.4 ≥ -32768)) (Tree.ite (decide (m.4 < 32768)) (Tree.ite ([m.set.1, m.set.2, m.set.q.1, m.set.q.2, m.6].all (inB 255)) (Tree.ite ([m.set.q.3, m.set.5].all (inB 65535)) (Tree.ite (!(Ck.eqB m.set.g Ck.zero)) (Tree.ite (Prt.eqB m.set.snd m.h.src) (Tree.leaf { v := V.bool (Prt.eqB m.set.rcv Prt.zero), upd := [], new := [] }) (Tree.leaf { v := V.fls, upd := [], new := [] })) (Tree.leaf { v := V.fls, upd := [], new := [] })) (Tree.leaf { v := V.fls, upd := [], new := [] })) (Tree.leaf { v := V.fls, upd := [], new := [] })) (Tree.leaf { v := V.fls, upd := [], new := [] })) (Tree.leaf { v := V.fls, upd := [], new := [] })) from by kernel_rfl]
      simp only [denN_ite, denN_leaf, denN_fail, nrmF, nrmT, iteR]
      refine resB ?_
      simp only [annB, inB, List.all_cons, List.all_nil, iteF, iteT, iteN]
      rw [Bool.eq_iff_iff]
      simp only [Bool.and_eq_true, Bool.or_eq_true, Bool.not_eq_true', decide_eq_true_eq, decide_eq_false_iff_not, beq_iff_eq, bne_iff_ne, ne_eq]
      first | omega | grind
    · simp [den_fail] at h
  · simp [den_fail] at h
end Go.Proofs.Ytkclmkjekllkiaa

set_option maxRecDepth 100000
set_option linter.unusedSimpArgs false
set_option linter.unusedVariables false
namespace Go.Proofs.Ytkclmkjekllkiaa
open Go.Rx

def hdB (h : Rx.Hd) : Bool := rightB h.ty h.dom h.fl h.src.n h.se h.lo
def rightM (m : Msg) : Bool := hdB m.h && stmB m.t && (if m.h.ty = 9 then inB 65534 m.ask.n && decide (1 ≤ m.ask.n) && decide (m.off = 0) && decide (m.src = 0) && Ste.eqB m.set Ste.zero
  else if m.h.ty = 11 then Prt.eqB m.ask Prt.zero && annB m else Prt.eqB m.ask Prt.zero && decide (m.off = 0) && decide (m.src = 0) && Ste.eqB m.set Ste.zero)
def rightMS : Rx.Spec := fun a b => match a, b with
  | [v], [] => match Msg.of v with
    | some m => .need (inI64 m.h.fl) (.leaf ⟨.bool (rightM m), [], []⟩)
    | none => .fail
  | _, _ => .fail
theorem rightM_G : GammaOK P [(34, rightS), (35, stmS), (36, annS)] := .cons right_ok (.cons stm_ok (.cons ann_ok (.nil P)))
theorem rightM_ok : SpecOK P 26 rightMS := by
  refine specOK_fast rightM_G hm (Λ := loopsOf []) Try.func26 (by kernel_rfl) (LoopsOK.nil (by kernel_rfl)) ?_
  intro args bs r h
  unfold rightMS at h
  split at h
  · split at h
    · rename_i v m hm'
      rw [Msg.of_eq hm']
      rw [den_need, den_leaf] at h
      obtain ⟨hf, rfl⟩ := h
      rw [show (fFn P (specsOf [(34, rightS), (35, stmS), (36, annS)]) (loopsOf []) Try.f26 [m.v] []).denN = Tree.denN (Tree.ite (inI64 m.h.3) (Tree.ite (!rightB m.h.1 m.h.2 m.h.3 m.h.src.2 m.h.6 m.h.7) (Tree.leaf { v := V.fls, upd := [], new := [] }) (Tree.ite (!stmB { sec := m.t.1, ns := m.t.2 }) (Tree.leaf { v := V.fls, upd := [], new := [] }) (Tree.ite (m.h.1 == 9) (Tree.ite (Hd.eqB m.h m.h && (Stm.eqB m.t m.t && (Prt.eqB m.ask m.ask && (m.4 == 0 && (Ste.eqB m.set Ste.zero && (m.6 == 0 && true)))))) (Tree.ite (decide (m.ask.2 ≥ 1)) (Tree.leaf { v := V.bool (decide (m.ask.2 < 65535)), upd := [], new := [] }) (Tree.leaf { v := V.fls, upd := [], new := [] })) (Tree.leaf { v := V.fls, upd := [], new := [] })) (Tree.ite (m.h.1 == 11) (Tree.ite (Prt.eqB m.ask Prt.zero) (Tree.leaf { v := V.bool (annB { h := { ty := m.h.1, dom := m.h.2, fl := m.h.3, co := m.h.4, src := { c := { b0 := m.h.src.c.1, b1 := m.h.src.c.2, b2 := m.h.src.c.3, b3 := m.h.src.c.4, b4 := m.h.src.c.5, b5 := m.h.src.c.6, b6 := m.h.src.c.7, b7 := m.h.src.c.8 }, n := m.h.src.2 }, se := m.h.6, lo := m.h.7 }, t := { sec := m.t.1, ns := m.t.2 }, ask := { c := { b0 := m.ask.c.1, b1 := m.ask.c.2, b2 := m.ask.c.3, b3 := m.ask.c.4, b4 := m.ask.c.5, b5 := m.ask.c.6, b6 := m.ask.c.7, b7 := m.ask.c.8 }, n := m.ask.2 }, off := m.4, set := { p1 := m.set.1, p2 := m.set.2, q := { cl := m.set.q.1, ac := m.set.q.2, va := m.set.q.3 }, g := { b0 := m.set.g.1, b1 := m.set.g.2, b2 := m.set.g.3, b3 := m.set.g.4, b4 := m.set.g.5, b5 := m.set.g.6, b6 := m.set.g.7, b7 := m.set.g.8 }, st := m.set.5, snd := { c := { b0 := m.set.snd.c.1, b1 := m.set.snd.c.2, b2 := m.set.snd.c.3, b3 := m.set.snd.c.4, b4 := m.set.snd.c.5, b5 := m.set.snd.c.6, b6 := m.set.snd.c.7, b7 := m.set.snd.c.8 }, n := m.set.snd.2 }, rcv := { c := { b0 := m.set.rcv.c.1, b1 := m.set.rcv.c.2, b2 := m.set.rcv.c.3, b3 := m.set.rcv.c.4, b4 := m.set.rcv.c.5, b5 := m.set.rcv.c.6, b6 := m.set.rcv.c.7, b7 := m.set.rcv.c.8 }, n := m.set.rcv.2 } }, src := m.6 }), upd := [], new := [] }) (Tree.leaf { v := V.fls, upd := [], new := [] })) (Tree.leaf { v := V.bool (Hd.eqB m.h m.h && (Stm.eqB m.t m.t && (Prt.eqB m.ask Prt.zero && (m.4 == 0 && (Ste.eqB m.set Ste.zero && (m.6 == 0 && true)))))), upd := [], new := [] }))))) Tree.fail) from by kernel_rfl]
      simp only [denN_ite, denN_leaf, denN_fail]
      rw [if_pos hf]
      simp only [denN_ite, denN_leaf, denN_fail, nrmF, nrmT, iteR]
      refine resB ?_
      simp only [rightM, hdB, inB, annB, Stm.eqB_self, Prt.eqB_self, Rx.Hd.eqB_self, Bool.true_and, iteF, iteT, iteN]
      rw [Bool.eq_iff_iff]
      simp only [Bool.and_eq_true, Bool.or_eq_true, Bool.not_eq_true', decide_eq_true_eq, decide_eq_false_iff_not, beq_iff_eq, bne_iff_ne, ne_eq]
      first | omega | grind
    · simp [den_fail] at h
  · simp [den_fail] at h
noncomputable def octetS : Rx.Spec := fFn P (specsOf []) (loopsOf []) Try.f45
theorem octet_ok : SpecOK P 45 octetS := inl_ok (GammaOK.nil P) hm Try.func45 (by kernel_rfl) (LoopsOK.nil (by kernel_rfl))
noncomputable def wordS : Rx.Spec := fFn P (specsOf []) (loopsOf []) Try.f46
theorem word_ok : SpecOK P 46 wordS := inl_ok (GammaOK.nil P) hm Try.func46 (by kernel_rfl) (LoopsOK.nil (by kernel_rfl))
theorem refRightM_G : GammaOK P [(43, rightS), (44, stmS), (45, octetS), (46, wordS)] := .cons refRight_ok (.cons refStm_ok (.cons octet_ok (.cons word_ok (.nil P))))
theorem refRightM_ok : SpecOK P 32 rightMS := by
  refine specOK_fast refRightM_G hm (Λ := loopsOf []) Try.func32 (by kernel_rfl) (LoopsOK.nil (by kernel_rfl)) ?_
  intro args bs r h
  unfold rightMS at h
  split at h
  · split at h
    · rename_i v m hm'
      rw [Msg.of_eq hm']
      rw [den_need, den_leaf] at h
      obtain ⟨hf, rfl⟩ := h
      rw [show (fFn P (specsOf [(43, rightS), (44, stmS), (45, octetS), (46, wordS)]) (loopsOf []) Try.f32 [m.v] []).denN = Tree.denN (Tree.ite (inI64 m.h.3) (Tree.ite (!rightB m.h.1 m.h.2 m.h.3 m.h.src.2 m.h.6 m.h.7) (Tree.leaf { v := V.fls, upd := [], new := [] }) (Tree.ite (!stmB { sec := m.t.1, ns := m.t.2 }) (Tree.leaf { v := V.fls, upd := [], new := [] }) (Tree.ite (m.h.1 != 9) (Tree.ite (!(Prt.eqB m.ask Prt.zero)) (Tree.leaf { v := V.fls, upd := [], new := [] }) (Tree.ite (m.h.1 == 9) (Tree.ite (decide (m.ask.2 < 1)) (Tree.leaf { v := V.fls, upd := [], new := [] }) (Tree.ite (decide (m.ask.2 > 65534)) (Tree.leaf { v := V.fls, upd := [], new := [] }) (Tree.ite (m.h.1 != 11) (Tree.ite (m.4 == 0) (Tree.ite (m.6 == 0) (Tree.leaf { v := V.bool (Ste.eqB m.set Ste.zero), upd := [], new := [] }) (Tree.leaf { v := V.fls, upd := [], new := [] })) (Tree.leaf { v := V.fls, upd := [], new := [] })) (Tree.ite (decide (m.4 < -32768)) (Tree.leaf { v := V.fls, upd := [], new := [] }) (Tree.ite (decide (m.4 > 32767)) (Tree.leaf { v := V.fls, upd := [], new := [] }) (Tree.ite (decide (m.6 ≥ 0)) (Tree.ite (!decide (m.6 ≤ 255)) (Tree.leaf { v := V.fls, upd := [], new := [] }) (Tree.ite (!(Prt.eqB m.set.snd m.h.src)) (Tree.leaf { v := V.fls, upd := [], new := [] }) (Tree.ite (!(Prt.eqB m.set.rcv Prt.zero)) (Tree.leaf { v := V.fls, upd := [], new := [] }) (Tree.ite (decide (m.set.1 ≥ 0)) (Tree.ite (decide (m.set.1 ≤ 255)) (Tree.ite (decide (m.set.2 ≥ 0)) (Tree.ite (decide (m.set.2 ≤ 255)) (Tree.ite (decide (m.set.q.1 ≥ 0)) (Tree.ite (decide (m.set.q.1 ≤ 255)) (Tree.ite (decide (m.set.q.2 ≥ 0)) (Tree.ite (decide (m.set.q.2 ≤ 255)) (Tree.ite (decide (m.set.q.3 ≥ 0)) (Tree.ite (decide (m.set.q.3 ≤ 65535)) (Tree.ite (decide (m.set.5 ≥ 0)) (Tree.ite (decide (m.set.5 ≤ 65535)) (Tree.leaf { v := V.bool !(Ck.eqB m.set.g Ck.zero), upd := [], new := [] }) (Tree.leaf { v := V.fls, upd := [], new := [] })) (Tree.leaf { v := V.fls, upd := [], new := [] })) (Tree.leaf { v := V.fls, upd := [], new := [] })) (Tree.leaf { v := V.fls, upd := [], new := [] })) (Tree.leaf { v := V.fls, upd := [], new := [] })) (Tree.leaf { v := V.fls, upd := [], new := [] })) (Tree.leaf { v := V.fls, upd := [], new := [] })) (Tree.leaf { v := V.fls, upd := [], new := [] })) (Tree.leaf { v := V.fls, upd := [], new := [] })) (Tree.leaf { v := V.fls, upd := [], new := [] })) (Tree.leaf { v := V.fls, upd := [], new := [] })) (Tree.leaf { v := V.fls, upd := [], new := [] }))))) (Tree.leaf { v := V.fls, upd := [], new := [] }))))))) (Tree.ite (m.h.1 != 11) (Tree.ite (m.4 == 0) (Tree.ite (m.6 == 0) (Tree.leaf { v := V.bool (Ste.eqB m.set Ste.zero), upd := [], new := [] }) (Tree.leaf { v := V.fls, upd := [], new := [] })) (Tree.leaf { v := V.fls, upd := [], new := [] })) (Tree.ite (decide (m.4 < -32768)) (Tree.leaf { v := V.fls, upd := [], new := [] }) (Tree.ite (decide (m.4 > 32767)) (Tree.leaf { v := V.fls, upd := [], new := [] }) (Tree.ite (decide (m.6 ≥ 0)) (Tree.ite (!decide (m.6 ≤ 255)) (Tree.leaf { v := V.fls, upd := [], new := [] }) (Tree.ite (!(Prt.eqB m.set.snd m.h.src)) (Tree.leaf { v := V.fls, upd := [], new := [] }) (Tree.ite (!(Prt.eqB m.set.rcv Prt.zero)) (Tree.leaf { v := V.fls, upd := [], new := [] }) (Tree.ite (decide (m.set.1 ≥ 0)) (Tree.ite (decide (m.set.1 ≤ 255)) (Tree.ite (decide (m.set.2 ≥ 0)) (Tree.ite (decide (m.set.2 ≤ 255)) (Tree.ite (decide (m.set.q.1 ≥ 0)) (Tree.ite (decide (m.set.q.1 ≤ 255)) (Tree.ite (decide (m.set.q.2 ≥ 0)) (Tree.ite (decide (m.set.q.2 ≤ 255)) (Tree.ite (decide (m.set.q.3 ≥ 0)) (Tree.ite (decide (m.set.q.3 ≤ 65535)) (Tree.ite (decide (m.set.5 ≥ 0)) (Tree.ite (decide (m.set.5 ≤ 65535)) (Tree.leaf { v := V.bool !(Ck.eqB m.set.g Ck.zero), upd := [], new := [] }) (Tree.leaf { v := V.fls, upd := [], new := [] })) (Tree.leaf { v := V.fls, upd := [], new := [] })) (Tree.leaf { v := V.fls, upd := [], new := [] })) (Tree.leaf { v := V.fls, upd := [], new := [] })) (Tree.leaf { v := V.fls, upd := [], new := [] })) (Tree.leaf { v := V.fls, upd := [], new := [] })) (Tree.leaf { v := V.fls, upd := [], new := [] })) (Tree.leaf { v := V.fls, upd := [], new := [] })) (Tree.leaf { v := V.fls, upd := [], new := [] })) (Tree.leaf { v := V.fls, upd := [], new := [] })) (Tree.leaf { v := V.fls, upd := [], new := [] })) (Tree.leaf { v := V.fls, upd := [], new := [] }))))) (Tree.leaf { v := V.fls, upd := [], new := [] }))))))) (Tree.ite (m.h.1 == 9) (Tree.ite (decide (m.ask.2 < 1)) (Tree.leaf { v := V.fls, upd := [], new := [] }) (Tree.ite (decide (m.ask.2 > 65534)) (Tree.leaf { v := V.fls, upd := [], new := [] }) (Tree.ite (m.h.1 != 11) (Tree.ite (m.4 == 0) (Tree.ite (m.6 == 0) (Tree.leaf { v := V.bool (Ste.eqB m.set Ste.zero), upd := [], new := [] }) (Tree.leaf { v := V.fls, upd := [], new := [] })) (Tree.leaf { v := V.fls, upd := [], new := [] })) (Tree.ite (decide (m.4 < -32768)) (Tree.leaf { v := V.fls, upd := [], new := [] }) (Tree.ite (decide (m.4 > 32767)) (Tree.leaf { v := V.fls, upd := [], new := [] }) (Tree.ite (decide (m.6 ≥ 0)) (Tree.ite (!decide (m.6 ≤ 255)) (Tree.leaf { v := V.fls, upd := [], new := [] }) (Tree.ite (!(Prt.eqB m.set.snd m.h.src)) (Tree.leaf { v := V.fls, upd := [], new := [] }) (Tree.ite (!(Prt.eqB m.set.rcv Prt.zero)) (Tree.leaf { v := V.fls, upd := [], new := [] }) (Tree.ite (decide (m.set.1 ≥ 0)) (Tree.ite (decide (m.set.1 ≤ 255)) (Tree.ite (decide (m.set.2 ≥ 0)) (Tree.ite (decide (m.set.2 ≤ 255)) (Tree.ite (decide (m.set.q.1 ≥ 0)) (Tree.ite (decide (m.set.q.1 ≤ 255)) (Tree.ite (decide (m.set.q.2 ≥ 0)) (Tree.ite (decide (m.set.q.2 ≤ 255)) (Tree.ite (decide (m.set.q.3 ≥ 0)) (Tree.ite (decide (m.set.q.3 ≤ 65535)) (Tree.ite (decide (m.set.5 ≥ 0)) (Tree.ite (decide (m.set.5 ≤ 65535)) (Tree.leaf { v := V.bool !(Ck.eqB m.set.g Ck.zero), upd := [], new := [] }) (Tree.leaf { v := V.fls, upd := [], new := [] })) (Tree.leaf { v := V.fls, upd := [], new := [] })) (Tree.leaf { v := V.fls, upd := [], new := [] })) (Tree.leaf { v := V.fls, upd := [], new := [] })) (Tree.leaf { v := V.fls, upd := [], new := [] })) (Tree.leaf { v := V.fls, upd := [], new := [] })) (Tree.leaf { v := V.fls, upd := [], new := [] })) (Tree.leaf { v := V.fls, upd := [], new := [] })) (Tree.leaf { v := V.fls, upd := [], new := [] })) (Tree.leaf { v := V.fls, upd := [], new := [] })) (Tree.leaf { v := V.fls, upd := [], new := [] })) (Tree.leaf { v := V.fls, upd := [], new := [] }))))) (Tree.leaf { v := V.fls, upd := [], new := [] }))))))) (Tree.ite (m.h.1 != 11) (Tree.ite (m.4 == 0) (Tree.ite (m.6 == 0) (Tree.leaf { v := V.bool (Ste.eqB m.set Ste.zero), upd := [], new := [] }) (Tree.leaf { v := V.fls, upd := [], new := [] })) (Tree.leaf { v := V.fls, upd := [], new := [] })) (Tree.ite (decide (m.4 < -32768)) (Tree.leaf { v := V.fls, upd := [], new := [] }) (Tree.ite (decide (m.4 > 32767)) (Tree.leaf { v := V.fls, upd := [], new := [] }) (Tree.ite (decide (m.6 ≥ 0)) (Tree.ite (!decide (m.6 ≤ 255)) (Tree.leaf { v := V.fls, upd := [], new := [] }) (Tree.ite (!(Prt.eqB m.set.snd m.h.src)) (Tree.leaf { v := V.fls, upd := [], new := [] }) (Tree.ite (!(Prt.eqB m.set.rcv Prt.zero)) (Tree.leaf { v := V.fls, upd := [], new := [] }) (Tree.ite (decide (m.set.1 ≥ 0)) (Tree.ite (decide (m.set.1 ≤ 255)) (Tree.ite (decide (m.set.2 ≥ 0)) (Tree.ite (decide (m.set.2 ≤ 255)) (Tree.ite (decide (m.set.q.1 ≥ 0)) (Tree.ite (decide (m.set.q.1 ≤ 255)) (Tree.ite (decide (m.set.q.2 ≥ 0)) (Tree.ite (decide (m.set.q.2 ≤ 255)) (Tree.ite (decide (m.set.q.3 ≥ 0)) (Tree.ite (decide (m.set.q.3 ≤ 65535)) (Tree.ite (decide (m.set.5 ≥ 0)) (Tree.ite (decide (m.set.5 ≤ 65535)) (Tree.leaf { v := V.bool !(Ck.eqB m.set.g Ck.zero), upd := [], new := [] }) (Tree.leaf { v := V.fls, upd := [], new := [] })) (Tree.leaf { v := V.fls, upd := [], new := [] })) (Tree.leaf { v := V.fls, upd := [], new := [] })) (Tree.leaf { v := V.fls, upd := [], new := [] })) (Tree.leaf { v := V.fls, upd := [], new := [] })) (Tree.leaf { v := V.fls, upd := [], new := [] })) (Tree.leaf { v := V.fls, upd := [], new := [] })) (Tree.leaf { v := V.fls, upd := [], new := [] })) (Tree.leaf { v := V.fls, upd := [], new := [] })) (Tree.leaf { v := V.fls, upd := [], new := [] })) (Tree.leaf { v := V.fls, upd := [], new := [] })) (Tree.leaf { v := V.fls, upd := [], new := [] }))))) (Tree.leaf { v := V.fls, upd := [], new := [] }))))))))) Tree.fail) from by kernel_rfl]
      simp only [denN_ite, denN_leaf, denN_fail]
      rw [if_pos hf]
      simp only [denN_ite, denN_leaf, denN_fail, nrmF, nrmT, iteR]
      refine resB ?_
      simp only [rightM, hdB, inB, annB, Stm.eqB_self, Prt.eqB_self, Rx.Hd.eqB_self, Bool.true_and, iteF, iteT, iteN]
      rw [Bool.eq_iff_iff]
      simp only [Bool.and_eq_true, Bool.or_eq_true, Bool.not_eq_true', decide_eq_true_eq, decide_eq_false_iff_not, beq_iff_eq, bne_iff_ne, ne_eq]
      first | omega | grind
    · simp [den_fail] at h
  · simp [den_fail] at h
end Go.Proofs.Ytkclmkjekllkiaa

set_option maxRecDepth 100000
set_option linter.unusedSimpArgs false
set_option linter.unusedVariables false
namespace Go.Proofs.Ytkclmkjekllkiaa
open Go.Rx

noncomputable def i37S : Rx.Spec := fFn P (specsOf []) (loopsOf []) Try.f37
theorem i37_ok : SpecOK P 37 i37S := inl_ok (GammaOK.nil P) hm Try.func37 (by kernel_rfl) (LoopsOK.nil (by kernel_rfl))
noncomputable def i38S : Rx.Spec := fFn P (specsOf []) (loopsOf []) Try.f38
theorem i38_ok : SpecOK P 38 i38S := inl_ok (GammaOK.nil P) hm Try.func38 (by kernel_rfl) (LoopsOK.nil (by kernel_rfl))
noncomputable def i39S : Rx.Spec := fFn P (specsOf []) (loopsOf []) Try.f39
theorem i39_ok : SpecOK P 39 i39S := inl_ok (GammaOK.nil P) hm Try.func39 (by kernel_rfl) (LoopsOK.nil (by kernel_rfl))
noncomputable def i40S : Rx.Spec := fFn P (specsOf []) (loopsOf []) Try.f40
theorem i40_ok : SpecOK P 40 i40S := inl_ok (GammaOK.nil P) hm Try.func40 (by kernel_rfl) (LoopsOK.nil (by kernel_rfl))
noncomputable def i41S : Rx.Spec := fFn P (specsOf []) (loopsOf []) Try.f41
theorem i41_ok : SpecOK P 41 i41S := inl_ok (GammaOK.nil P) hm Try.func41 (by kernel_rfl) (LoopsOK.nil (by kernel_rfl))
noncomputable def i42S : Rx.Spec := fFn P (specsOf []) (loopsOf []) Try.f42
theorem i42_ok : SpecOK P 42 i42S := inl_ok (GammaOK.nil P) hm Try.func42 (by kernel_rfl) (LoopsOK.nil (by kernel_rfl))
noncomputable def i28S : Rx.Spec := fFn P (specsOf []) (loopsOf []) Try.f28
theorem i28_ok : SpecOK P 28 i28S := inl_ok (GammaOK.nil P) hm Try.func28 (by kernel_rfl) (LoopsOK.nil (by kernel_rfl))
noncomputable def i29S : Rx.Spec := fFn P (specsOf []) (loopsOf []) Try.f29
theorem i29_ok : SpecOK P 29 i29S := inl_ok (GammaOK.nil P) hm Try.func29 (by kernel_rfl) (LoopsOK.nil (by kernel_rfl))
noncomputable def i30S : Rx.Spec := fFn P (specsOf []) (loopsOf []) Try.f30
theorem i30_ok : SpecOK P 30 i30S := inl_ok (GammaOK.nil P) hm Try.func30 (by kernel_rfl) (LoopsOK.nil (by kernel_rfl))
noncomputable def i33S : Rx.Spec := fFn P (specsOf []) (loopsOf []) Try.f33
theorem i33_ok : SpecOK P 33 i33S := inl_ok (GammaOK.nil P) hm Try.func33 (by kernel_rfl) (LoopsOK.nil (by kernel_rfl))
noncomputable def i11S : Rx.Spec := fFn P (specsOf []) (loopsOf []) Try.f11
theorem i11_ok : SpecOK P 11 i11S := inl_ok (GammaOK.nil P) hm Try.func11 (by kernel_rfl) (LoopsOK.nil (by kernel_rfl))
noncomputable def i18S : Rx.Spec := fFn P (specsOf []) (loopsOf []) Try.f18
theorem i18_ok : SpecOK P 18 i18S := inl_ok (GammaOK.nil P) hm Try.func18 (by kernel_rfl) (LoopsOK.nil (by kernel_rfl))
noncomputable def i20S : Rx.Spec := fFn P (specsOf []) (loopsOf []) Try.f20
theorem i20_ok : SpecOK P 20 i20S := inl_ok (GammaOK.nil P) hm Try.func20 (by kernel_rfl) (LoopsOK.nil (by kernel_rfl))
noncomputable def i22S : Rx.Spec := fFn P (specsOf []) (loopsOf []) Try.f22
theorem i22_ok : SpecOK P 22 i22S := inl_ok (GammaOK.nil P) hm Try.func22 (by kernel_rfl) (LoopsOK.nil (by kernel_rfl))
noncomputable def i13S : Rx.Spec := fFn P (specsOf []) (loopsOf []) Try.f13
theorem i13_ok : SpecOK P 13 i13S := inl_ok (GammaOK.nil P) hm Try.func13 (by kernel_rfl) (LoopsOK.nil (by kernel_rfl))
noncomputable def i31S : Rx.Spec := fFn P (specsOf []) (loopsOf []) Try.f31
theorem i31_ok : SpecOK P 31 i31S := inl_ok (GammaOK.nil P) hm Try.func31 (by kernel_rfl) (LoopsOK.nil (by kernel_rfl))
theorem g15_G : GammaOK P [(29, i29S)] := .cons i29_ok (.nil P)
noncomputable def i15S : Rx.Spec := fFn P (specsOf [(29, i29S)]) (loopsOf []) Try.f15
theorem i15_ok : SpecOK P 15 i15S := inl_ok g15_G hm Try.func15 (by kernel_rfl) (LoopsOK.nil (by kernel_rfl))
theorem g16_G : GammaOK P [(30, i30S)] := .cons i30_ok (.nil P)
noncomputable def i16S : Rx.Spec := fFn P (specsOf [(30, i30S)]) (loopsOf []) Try.f16
theorem i16_ok : SpecOK P 16 i16S := inl_ok g16_G hm Try.func16 (by kernel_rfl) (LoopsOK.nil (by kernel_rfl))
theorem g12_G : GammaOK P [(15, i15S), (28, i28S)] := .cons i15_ok (.cons i28_ok (.nil P))
noncomputable def i12S : Rx.Spec := fFn P (specsOf [(15, i15S), (28, i28S)]) (loopsOf []) Try.f12
theorem i12_ok : SpecOK P 12 i12S := inl_ok g12_G hm Try.func12 (by kernel_rfl) (LoopsOK.nil (by kernel_rfl))
noncomputable def i14S : Rx.Spec := fFn P (specsOf []) (loopsOf []) Try.f14
theorem i14_ok : SpecOK P 14 i14S := inl_ok (GammaOK.nil P) hm Try.func14 (by kernel_rfl) (LoopsOK.nil (by kernel_rfl))
end Go.Proofs.Ytkclmkjekllkiaa
