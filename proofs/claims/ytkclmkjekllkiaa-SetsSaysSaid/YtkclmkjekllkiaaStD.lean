/- Layer 20: who follows; the laws as functions. The conditions stand in the specifications; the rows meet them. -/
import Derived.Test.YtkclmkjekllkiaaStB
import Derived.Test.YtkclmkjekllkiaaStC
set_option linter.unusedSimpArgs false
set_option linter.unusedVariables false
set_option linter.unnecessarySimpa false
set_option linter.unusedSectionVars false
set_option maxRecDepth 100000
set_option linter.unusedSimpArgs false
set_option linter.unusedVariables false
namespace Go.Proofs.Ytkclmkjekllkiaa
open Go.Rx

def bitB (n : Int) (k : Nat) : Bool := n / 2 ^ k % 2 == 1
def grandOf (s : Ste) : Ste := ⟨s.p1, s.p2, s.q, s.g, 0, Prt.zero, Prt.zero⟩
def followZ (m : Msg) : Sts := ⟨m.set.st + 1, m.set.snd, grandOf m.set, ⟨m.off, bitB m.h.fl 0, bitB m.h.fl 1, bitB m.h.fl 2⟩, bitB m.h.fl 3, bitB m.h.fl 4, bitB m.h.fl 5, m.src⟩
def followB (m : Msg) : Bool := decide (m.h.ty = 11) && rightM m && decide (m.set.st ≤ 254)
def folS : Rx.Spec := fun a b => match a, b with
  | [v], [] => match Msg.of v with
    | some m => .need (inI64 m.h.fl) (.ite (followB m) (.leaf ⟨.tup [(followZ m).v, .bool true], [], []⟩) (.leaf ⟨.tup [Sts.zero.v, .bool false], [], []⟩))
    | none => .fail
  | _, _ => .fail
theorem fol_flags {m : Msg} (h : rightM m = true) (h11 : m.h.ty = 11) : 0 ≤ m.h.fl ∧ m.h.fl ≤ 63 ∧ 0 ≤ m.set.st ∧ m.set.st ≤ 65535 := by
  unfold rightM at h
  rw [if_neg (by omega), if_pos h11] at h
  simp only [hdB, rightB, annB, inB, Bool.and_eq_true, decide_eq_true_eq] at h
  obtain ⟨⟨⟨⟨⟨⟨⟨⟨⟨⟨_, _⟩, _⟩, hf⟩, _⟩, _⟩, _⟩, _⟩, _⟩, _⟩, _, ⟨⟨⟨_, _, hs⟩, _⟩, _⟩, _⟩ := h
  rw [h11] at hf
  simp only [flagsB, if_true] at hf
  rw [if_neg (by omega)] at hf
  simp only [Bool.and_eq_true, decide_eq_true_eq] at hf
  exact ⟨hf.1, hf.2, hs.1, hs.2⟩
theorem bits_own : ∀ n : Fin 64, ((bAnd .i64 (n.val : Int) 1 != 0) = bitB n.val 0) ∧ ((bAnd .i64 (n.val : Int) 2 != 0) = bitB n.val 1) ∧ ((bAnd .i64 (n.val : Int) 4 != 0) = bitB n.val 2) ∧ ((bAnd .i64 (n.val : Int) 8 != 0) = bitB n.val 3) ∧
    ((bAnd .i64 (n.val : Int) 16 != 0) = bitB n.val 4) ∧ ((bAnd .i64 (n.val : Int) 32 != 0) = bitB n.val 5) := by decide +kernel
theorem bits_at {f : Int} (h0 : 0 ≤ f) (h1 : f ≤ 63) : ((bAnd .i64 f 1 != 0) = bitB f 0) ∧ ((bAnd .i64 f 2 != 0) = bitB f 1) ∧ ((bAnd .i64 f 4 != 0) = bitB f 2) ∧ ((bAnd .i64 f 8 != 0) = bitB f 3) ∧
    ((bAnd .i64 f 16 != 0) = bitB f 4) ∧ ((bAnd .i64 f 32 != 0) = bitB f 5) := by
  obtain ⟨n, rfl⟩ := Int.eq_ofNat_of_zero_le h0
  exact bits_own ⟨n, by omega⟩
noncomputable abbrev wG : List (Nat × Rx.Spec) := [(26, rightMS), (28, i28S), (31, i31S), (37, i37S), (38, i38S), (39, i39S), (40, i40S), (41, i41S), (42, i42S)]
theorem wG_ok : GammaOK P wG := .cons rightM_ok (.cons i28_ok fG_ok)
theorem follow_ok : SpecOK P 17 folS := by
  refine specOK_fast wG_ok hm (Λ := loopsOf [(firstRegion (loopAt Try.f17 0), fUnroll P (specsOf wG) (loopsOf []) Try.f17 (loopAt Try.f17 0) 7)]) Try.func17 (by kernel_rfl) (LoopsOK.one (by kernel_rfl) (fUnroll_ok wG_ok hm (LoopsOK.nil (by kernel_rfl)) _ _)) ?_
  intro args bs r h
  unfold folS at h
  split at h
  · split at h
    · rename_i v m hm'
      rw [Msg.of_eq hm']
      rw [den_need] at h
      obtain ⟨hf, h⟩ := h
      rw [← denN_of h]
      rw [show (fFn P (specsOf wG) (loopsOf [(firstRegion (loopAt Try.f17 0), fUnroll P (specsOf wG) (loopsOf []) Try.f17 (loopAt Try.f17 0) 7)]) Try.f17 [m.v] []).denN = Tree.denN (Tree.ite (m.h.1 != 11) (Tree.leaf { v := V.tup [V.agg [V.int IntKind.i64 0, V.int IntKind.u8 0, V.int IntKind.u8 0, V.int IntKind.u8 0, V.int IntKind.u8 0, V.int IntKind.u8 0, V.int IntKind.u8 0, V.int IntKind.u8 0, V.int IntKind.u8 0, V.int IntKind.i64 0, V.int IntKind.i64 0, V.int IntKind.i64 0, V.int IntKind.i64 0, V.int IntKind.i64 0, V.int IntKind.i64 0, V.int IntKind.u8 0, V.int IntKind.u8 0, V.int IntKind.u8 0, V.int IntKind.u8 0, V.int IntKind.u8 0, V.int IntKind.u8 0, V.int IntKind.u8 0, V.int IntKind.u8 0, V.int IntKind.i64 0, V.int IntKind.u8 0, V.int IntKind.u8 0, V.int IntKind.u8 0, V.int IntKind.u8 0, V.int IntKind.u8 0, V.int IntKind.u8 0, V.int IntKind.u8 0, V.int IntKind.u8 0, V.int IntKind.i64 0, V.int IntKind.u8 0, V.int IntKind.u8 0, V.int IntKind.u8 0, V.int IntKind.u8 0, V.int IntKind.u8 0, V.int IntKind.u8 0, V.int IntKind.u8 0, V.int IntKind.u8 0, V.int IntKind.i64 0, V.int IntKind.i64 0, V.fls, V.fls, V.fls, V.fls, V.fls, V.fls, V.int IntKind.i64 0], V.fls], upd := [], new := [] }) (Tree.ite (inI64 m.h.3) (Tree.ite (!rightM m) (Tree.leaf { v := V.tup [V.agg [V.int IntKind.i64 0, V.int IntKind.u8 0, V.int IntKind.u8 0, V.int IntKind.u8 0, V.int IntKind.u8 0, V.int IntKind.u8 0, V.int IntKind.u8 0, V.int IntKind.u8 0, V.int IntKind.u8 0, V.int IntKind.i64 0, V.int IntKind.i64 0, V.int IntKind.i64 0, V.int IntKind.i64 0, V.int IntKind.i64 0, V.int IntKind.i64 0, V.int IntKind.u8 0, V.int IntKind.u8 0, V.int IntKind.u8 0, V.int IntKind.u8 0, V.int IntKind.u8 0, V.int IntKind.u8 0, V.int IntKind.u8 0, V.int IntKind.u8 0, V.int IntKind.i64 0, V.int IntKind.u8 0, V.int IntKind.u8 0, V.int IntKind.u8 0, V.int IntKind.u8 0, V.int IntKind.u8 0, V.int IntKind.u8 0, V.int IntKind.u8 0, V.int IntKind.u8 0, V.int IntKind.i64 0, V.int IntKind.u8 0, V.int IntKind.u8 0, V.int IntKind.u8 0, V.int IntKind.u8 0, V.int IntKind.u8 0, V.int IntKind.u8 0, V.int IntKind.u8 0, V.int IntKind.u8 0, V.int IntKind.i64 0, V.int IntKind.i64 0, V.fls, V.fls, V.fls, V.fls, V.fls, V.fls, V.int IntKind.i64 0], V.fls], upd := [], new := [] }) (Tree.ite (decide (m.set.5 ≥ 255)) (Tree.leaf { v := V.tup [V.agg [V.int IntKind.i64 0, V.int IntKind.u8 0, V.int IntKind.u8 0, V.int IntKind.u8 0, V.int IntKind.u8 0, V.int IntKind.u8 0, V.int IntKind.u8 0, V.int IntKind.u8 0, V.int IntKind.u8 0, V.int IntKind.i64 0, V.int IntKind.i64 0, V.int IntKind.i64 0, V.int IntKind.i64 0, V.int IntKind.i64 0, V.int IntKind.i64 0, V.int IntKind.u8 0, V.int IntKind.u8 0, V.int IntKind.u8 0, V.int IntKind.u8 0, V.int IntKind.u8 0, V.int IntKind.u8 0, V.int IntKind.u8 0, V.int IntKind.u8 0, V.int IntKind.i64 0, V.int IntKind.u8 0, V.int IntKind.u8 0, V.int IntKind.u8 0, V.int IntKind.u8 0, V.int IntKind.u8 0, V.int IntKind.u8 0, V.int IntKind.u8 0, V.int IntKind.u8 0, V.int IntKind.i64 0, V.int IntKind.u8 0, V.int IntKind.u8 0, V.int IntKind.u8 0, V.int IntKind.u8 0, V.int IntKind.u8 0, V.int IntKind.u8 0, V.int IntKind.u8 0, V.int IntKind.u8 0, V.int IntKind.i64 0, V.int IntKind.i64 0, V.fls, V.fls, V.fls, V.fls, V.fls, V.fls, V.int IntKind.i64 0], V.fls], upd := [], new := [] }) (Tree.leaf { v := V.tup [V.agg [V.int IntKind.i64 (IntKind.i64.wrap (m.set.5 + 1)), V.int IntKind.u8 m.set.snd.c.1, V.int IntKind.u8 m.set.snd.c.2, V.int IntKind.u8 m.set.snd.c.3, V.int IntKind.u8 m.set.snd.c.4, V.int IntKind.u8 m.set.snd.c.5, V.int IntKind.u8 m.set.snd.c.6, V.int IntKind.u8 m.set.snd.c.7, V.int IntKind.u8 m.set.snd.c.8, V.int IntKind.i64 m.set.snd.2, V.int IntKind.i64 m.set.1, V.int IntKind.i64 m.set.2, V.int IntKind.i64 m.set.q.1, V.int IntKind.i64 m.set.q.2, V.int IntKind.i64 m.set.q.3, V.int IntKind.u8 m.set.g.1, V.int IntKind.u8 m.set.g.2, V.int IntKind.u8 m.set.g.3, V.int IntKind.u8 m.set.g.4, V.int IntKind.u8 m.set.g.5, V.int IntKind.u8 m.set.g.6, V.int IntKind.u8 m.set.g.7, V.int IntKind.u8 m.set.g.8, V.int IntKind.i64 0, V.int IntKind.u8 0, V.int IntKind.u8 0, V.int IntKind.u8 0, V.int IntKind.u8 0, V.int IntKind.u8 0, V.int IntKind.u8 0, V.int IntKind.u8 0, V.int IntKind.u8 0, V.int IntKind.i64 0, V.int IntKind.u8 0, V.int IntKind.u8 0, V.int IntKind.u8 0, V.int IntKind.u8 0, V.int IntKind.u8 0, V.int IntKind.u8 0, V.int IntKind.u8 0, V.int IntKind.u8 0, V.int IntKind.i64 0, V.int IntKind.i64 m.4, V.bool (bAnd IntKind.i64 m.h.3 1 != 0), V.bool (bAnd IntKind.i64 m.h.3 2 != 0), V.bool (bAnd IntKind.i64 m.h.3 4 != 0), V.bool (bAnd IntKind.i64 m.h.3 8 != 0), V.bool (bAnd IntKind.i64 m.h.3 16 != 0), V.bool (bAnd IntKind.i64 m.h.3 32 != 0), V.int IntKind.i64 m.6], V.tru], upd := [], new := [] }))) Tree.fail)) from by kernel_rfl]
      simp only [denN_ite, denN_leaf, denN_fail]
      rw [if_pos hf]
      unfold followB
      by_cases h1 : m.h.ty = 11
      · rw [if_neg (by simp [h1])]
        cases h2 : rightM m with
        | false => simp only [Bool.not_false, if_true, Bool.and_false, Bool.false_and, Bool.false_eq_true, if_false]; rfl
        | true =>
          obtain ⟨g0, g1, g2, g3⟩ := fol_flags h2 h1
          obtain ⟨b0, b1, b2, b3, b4, b5⟩ := bits_at g0 g1
          by_cases h3 : m.set.st ≤ 254
          · rw [if_neg (by simp), if_neg (by simp; omega), if_pos (by simp [h1]; omega), wrap64_id (n := m.set.st + 1) (by omega) (by omega), b0, b1, b2, b3, b4, b5]
            rfl
          · rw [if_neg (by simp), if_pos (by simp; omega), if_neg (by simp; omega)]
            rfl
      · rw [if_pos (by simpa using h1), if_neg (by simp [h1])]
        rfl
    · simp [den_fail] at h
  · simp [den_fail] at h
theorem refw_G : GammaOK P [(32, rightMS), (33, i33S)] := .cons refRightM_ok (.cons i33_ok (.nil P))
theorem bits_ref : ∀ n : Fin 64, (∀ k : Fin 6, (bAnd .i64 ((n.val : Int).fdiv (2 ^ (min k.val 64))) 1 == 1) = bitB n.val k.val) := by decide +kernel
theorem bits_refat {f : Int} (h0 : 0 ≤ f) (h1 : f ≤ 63) (k : Nat) (hk : k < 6) : (bAnd .i64 (f.fdiv (2 ^ (min k 64))) 1 == 1) = bitB f k := by
  obtain ⟨n, rfl⟩ := Int.eq_ofNat_of_zero_le h0
  exact bits_ref ⟨n, by omega⟩ ⟨k, hk⟩
theorem refFollow_ok : SpecOK P 19 folS := by
  refine specOK_fast refw_G hm (Λ := loopsOf []) Try.func19 (by kernel_rfl) (LoopsOK.nil (by kernel_rfl)) ?_
  intro args bs r h
  unfold folS at h
  split at h
  · split at h
    · rename_i v m hm'
      rw [Msg.of_eq hm']
      rw [den_need] at h
      obtain ⟨hf, h⟩ := h
      rw [← denN_of h]
      rw [show (fFn P (specsOf [(32, rightMS), (33, i33S)]) (loopsOf []) Try.f19 [m.v] []).denN = Tree.denN (Tree.ite (m.h.1 != 11) (Tree.leaf { v := V.tup [V.agg [V.int IntKind.i64 0, V.int IntKind.u8 0, V.int IntKind.u8 0, V.int IntKind.u8 0, V.int IntKind.u8 0, V.int IntKind.u8 0, V.int IntKind.u8 0, V.int IntKind.u8 0, V.int IntKind.u8 0, V.int IntKind.i64 0, V.int IntKind.i64 0, V.int IntKind.i64 0, V.int IntKind.i64 0, V.int IntKind.i64 0, V.int IntKind.i64 0, V.int IntKind.u8 0, V.int IntKind.u8 0, V.int IntKind.u8 0, V.int IntKind.u8 0, V.int IntKind.u8 0, V.int IntKind.u8 0, V.int IntKind.u8 0, V.int IntKind.u8 0, V.int IntKind.i64 0, V.int IntKind.u8 0, V.int IntKind.u8 0, V.int IntKind.u8 0, V.int IntKind.u8 0, V.int IntKind.u8 0, V.int IntKind.u8 0, V.int IntKind.u8 0, V.int IntKind.u8 0, V.int IntKind.i64 0, V.int IntKind.u8 0, V.int IntKind.u8 0, V.int IntKind.u8 0, V.int IntKind.u8 0, V.int IntKind.u8 0, V.int IntKind.u8 0, V.int IntKind.u8 0, V.int IntKind.u8 0, V.int IntKind.i64 0, V.int IntKind.i64 0, V.fls, V.fls, V.fls, V.fls, V.fls, V.fls, V.int IntKind.i64 0], V.fls], upd := [], new := [] }) (Tree.ite (inI64 m.h.3) (Tree.ite (!rightM m) (Tree.leaf { v := V.tup [V.agg [V.int IntKind.i64 0, V.int IntKind.u8 0, V.int IntKind.u8 0, V.int IntKind.u8 0, V.int IntKind.u8 0, V.int IntKind.u8 0, V.int IntKind.u8 0, V.int IntKind.u8 0, V.int IntKind.u8 0, V.int IntKind.i64 0, V.int IntKind.i64 0, V.int IntKind.i64 0, V.int IntKind.i64 0, V.int IntKind.i64 0, V.int IntKind.i64 0, V.int IntKind.u8 0, V.int IntKind.u8 0, V.int IntKind.u8 0, V.int IntKind.u8 0, V.int IntKind.u8 0, V.int IntKind.u8 0, V.int IntKind.u8 0, V.int IntKind.u8 0, V.int IntKind.i64 0, V.int IntKind.u8 0, V.int IntKind.u8 0, V.int IntKind.u8 0, V.int IntKind.u8 0, V.int IntKind.u8 0, V.int IntKind.u8 0, V.int IntKind.u8 0, V.int IntKind.u8 0, V.int IntKind.i64 0, V.int IntKind.u8 0, V.int IntKind.u8 0, V.int IntKind.u8 0, V.int IntKind.u8 0, V.int IntKind.u8 0, V.int IntKind.u8 0, V.int IntKind.u8 0, V.int IntKind.u8 0, V.int IntKind.i64 0, V.int IntKind.i64 0, V.fls, V.fls, V.fls, V.fls, V.fls, V.fls, V.int IntKind.i64 0], V.fls], upd := [], new := [] }) (Tree.ite (decide (m.set.5 > 254)) (Tree.leaf { v := V.tup [V.agg [V.int IntKind.i64 0, V.int IntKind.u8 0, V.int IntKind.u8 0, V.int IntKind.u8 0, V.int IntKind.u8 0, V.int IntKind.u8 0, V.int IntKind.u8 0, V.int IntKind.u8 0, V.int IntKind.u8 0, V.int IntKind.i64 0, V.int IntKind.i64 0, V.int IntKind.i64 0, V.int IntKind.i64 0, V.int IntKind.i64 0, V.int IntKind.i64 0, V.int IntKind.u8 0, V.int IntKind.u8 0, V.int IntKind.u8 0, V.int IntKind.u8 0, V.int IntKind.u8 0, V.int IntKind.u8 0, V.int IntKind.u8 0, V.int IntKind.u8 0, V.int IntKind.i64 0, V.int IntKind.u8 0, V.int IntKind.u8 0, V.int IntKind.u8 0, V.int IntKind.u8 0, V.int IntKind.u8 0, V.int IntKind.u8 0, V.int IntKind.u8 0, V.int IntKind.u8 0, V.int IntKind.i64 0, V.int IntKind.u8 0, V.int IntKind.u8 0, V.int IntKind.u8 0, V.int IntKind.u8 0, V.int IntKind.u8 0, V.int IntKind.u8 0, V.int IntKind.u8 0, V.int IntKind.u8 0, V.int IntKind.i64 0, V.int IntKind.i64 0, V.fls, V.fls, V.fls, V.fls, V.fls, V.fls, V.int IntKind.i64 0], V.fls], upd := [], new := [] }) (Tree.leaf { v := V.tup [V.agg [V.int IntKind.i64 (IntKind.i64.wrap (m.set.5 + 1)), V.int IntKind.u8 m.set.snd.c.1, V.int IntKind.u8 m.set.snd.c.2, V.int IntKind.u8 m.set.snd.c.3, V.int IntKind.u8 m.set.snd.c.4, V.int IntKind.u8 m.set.snd.c.5, V.int IntKind.u8 m.set.snd.c.6, V.int IntKind.u8 m.set.snd.c.7, V.int IntKind.u8 m.set.snd.c.8, V.int IntKind.i64 m.set.snd.2, V.int IntKind.i64 m.set.1, V.int IntKind.i64 m.set.2, V.int IntKind.i64 m.set.q.1, V.int IntKind.i64 m.set.q.2, V.int IntKind.i64 m.set.q.3, V.int IntKind.u8 m.set.g.1, V.int IntKind.u8 m.set.g.2, V.int IntKind.u8 m.set.g.3, V.int IntKind.u8 m.set.g.4, V.int IntKind.u8 m.set.g.5, V.int IntKind.u8 m.set.g.6, V.int IntKind.u8 m.set.g.7, V.int IntKind.u8 m.set.g.8, V.int IntKind.i64 0, V.int IntKind.u8 0, V.int IntKind.u8 0, V.int IntKind.u8 0, V.int IntKind.u8 0, V.int IntKind.u8 0, V.int IntKind.u8 0, V.int IntKind.u8 0, V.int IntKind.u8 0, V.int IntKind.i64 0, V.int IntKind.u8 0, V.int IntKind.u8 0, V.int IntKind.u8 0, V.int IntKind.u8 0, V.int IntKind.u8 0, V.int IntKind.u8 0, V.int IntKind.u8 0, V.int IntKind.u8 0, V.int IntKind.i64 0, V.int IntKind.i64 m.4, V.bool (bAnd IntKind.i64 (m.h.3.fdiv 1) 1 == 1), V.bool (bAnd IntKind.i64 (m.h.3.fdiv 2) 1 == 1), V.bool (bAnd IntKind.i64 (m.h.3.fdiv 4) 1 == 1), V.bool (bAnd IntKind.i64 (m.h.3.fdiv 8) 1 == 1), V.bool (bAnd IntKind.i64 (m.h.3.fdiv 16) 1 == 1), V.bool (bAnd IntKind.i64 (m.h.3.fdiv 32) 1 == 1), V.int IntKind.i64 m.6], V.tru], upd := [], new := [] }))) Tree.fail)) from by kernel_rfl]
      simp only [denN_ite, denN_leaf, denN_fail]
      rw [if_pos hf]
      unfold followB
      by_cases h1 : m.h.ty = 11
      · rw [if_neg (by simp [h1])]
        cases h2 : rightM m with
        | false => simp only [Bool.not_false, if_true, Bool.and_false, Bool.false_and, Bool.false_eq_true, if_false]; rfl
        | true =>
          obtain ⟨g0, g1, g2, g3⟩ := fol_flags h2 h1
          have b0 : (bAnd IntKind.i64 (m.h.fl.fdiv 1) 1 == 1) = bitB m.h.fl 0 := bits_refat g0 g1 0 (by omega)
          have b1 : (bAnd IntKind.i64 (m.h.fl.fdiv 2) 1 == 1) = bitB m.h.fl 1 := bits_refat g0 g1 1 (by omega)
          have b2 : (bAnd IntKind.i64 (m.h.fl.fdiv 4) 1 == 1) = bitB m.h.fl 2 := bits_refat g0 g1 2 (by omega)
          have b3 : (bAnd IntKind.i64 (m.h.fl.fdiv 8) 1 == 1) = bitB m.h.fl 3 := bits_refat g0 g1 3 (by omega)
          have b4 : (bAnd IntKind.i64 (m.h.fl.fdiv 16) 1 == 1) = bitB m.h.fl 4 := bits_refat g0 g1 4 (by omega)
          have b5 : (bAnd IntKind.i64 (m.h.fl.fdiv 32) 1 == 1) = bitB m.h.fl 5 := bits_refat g0 g1 5 (by omega)
          by_cases h3 : m.set.st ≤ 254
          · rw [if_neg (by simp), if_neg (by simp; omega), if_pos (by simp [h1]; omega), wrap64_id (n := m.set.st + 1) (by omega) (by omega), b0, b1, b2, b3, b4, b5]
            rfl
          · rw [if_neg (by simp), if_pos (by simp; omega), if_neg (by simp; omega)]
            rfl
      · rw [if_pos (by simpa using h1), if_neg (by simp [h1])]
        rfl
    · simp [den_fail] at h
  · simp [den_fail] at h
end Go.Proofs.Ytkclmkjekllkiaa

set_option maxRecDepth 100000
set_option linter.unusedSimpArgs false
set_option linter.unusedVariables false
namespace Go.Proofs.Ytkclmkjekllkiaa
open Go.Rx

noncomputable def i27S : Rx.Spec := fFn P (specsOf []) (loopsOf []) Try.f27
theorem i27_ok : SpecOK P 27 i27S := inl_ok (GammaOK.nil P) hm Try.func27 (by kernel_rfl) (LoopsOK.nil (by kernel_rfl))
theorem g21_G : GammaOK P [(24, flS.N)] := .cons flags_ok.N (.nil P)
noncomputable def i21S : Rx.Spec := fFn P (specsOf [(24, flS.N)]) (loopsOf []) Try.f21
theorem i21_ok : SpecOK P 21 i21S := inl_ok g21_G hm Try.func21 (by kernel_rfl) (LoopsOK.nil (by kernel_rfl))
def trueS : Rx.Spec := fun a b => match a, b with
  | [], [] => .leaf ⟨.bool true, [], []⟩
  | _, _ => .fail
noncomputable abbrev aG : List (Nat × Rx.Spec) := [(12, i12S), (17, folS), (21, i21S), (24, flS.N), (27, i27S)]
theorem aG_ok : GammaOK P aG := .cons i12_ok (.cons follow_ok (.cons i21_ok (.cons flags_ok.N (.cons i27_ok (.nil P)))))
theorem alive_ok : SpecOK P 10 trueS := by
  refine specOK_fast aG_ok hm (Λ := loopsOf []) Try.func10 (by kernel_rfl) (LoopsOK.nil (by kernel_rfl)) ?_
  intro args bs r h
  unfold trueS at h
  split at h
  · rw [den_leaf] at h; subst h
    kernel_rfl
  · simp [den_fail] at h
end Go.Proofs.Ytkclmkjekllkiaa

set_option maxRecDepth 100000
set_option linter.unusedSimpArgs false
set_option linter.unusedVariables false
namespace Go.Proofs.Ytkclmkjekllkiaa
open Go.Rx

theorem g23_G : GammaOK P [(25, flS.N)] := .cons refFl_ok.N (.nil P)
noncomputable def i23S : Rx.Spec := fFn P (specsOf [(25, flS.N)]) (loopsOf []) Try.f23
theorem i23_ok : SpecOK P 23 i23S := inl_ok g23_G hm Try.func23 (by kernel_rfl) (LoopsOK.nil (by kernel_rfl))


noncomputable abbrev oG : List (Nat × Rx.Spec) := [(10, trueS), (11, i11S), (12, i12S), (13, i13S), (14, i14S), (15, i15S), (16, i16S)]
theorem oG_ok : GammaOK P oG := .cons alive_ok (.cons i11_ok (.cons i12_ok (.cons i13_ok (.cons i14_ok (.cons i15_ok (.cons i16_ok (.nil P)))))))
def ownS : Rx.Spec := fun a b => match a, b with
  | [.agg [.int .u8 c0, .int .u8 c1, .int .u8 c2, .int .u8 c3, .int .u8 c4, .int .u8 c5, .int .u8 c6, .int .u8 c7, .int .i64 dom, .int .i64 p1, .int .i64 p2, .int .i64 qc, .int .i64 qa, .int .i64 qv, .int .i64 ppb, .bool so, .sl 0 0 0 6 l cap], n], [.rows [.int .i64, .int .i64, .int .i64, .int .i64, .int .i64, .int .i64] rs] => match Nte.of n with
    | some n => .leaf ⟨.bool true, [none], []⟩
    | none => .fail
  | _, _ => .fail
theorem own_ok : SpecOK P 3 ownS := by
  refine specOK_fast oG_ok hm (Λ := loopsOf []) Try.func3 (by kernel_rfl) (LoopsOK.nil (by kernel_rfl)) ?_
  intro args bs r h
  unfold ownS at h
  split at h
  · split at h
    · rename_i c0 c1 c2 c3 c4 c5 c6 c7 dom p1 p2 qc qa qv ppb so l cap w rs _ n hm'
      rw [Nte.of_eq hm']
      rw [den_leaf] at h; subst h
      rw [show (fFn P (specsOf oG) (loopsOf []) Try.f3 [.agg [.int .u8 c0, .int .u8 c1, .int .u8 c2, .int .u8 c3, .int .u8 c4, .int .u8 c5, .int .u8 c6, .int .u8 c7, .int .i64 dom, .int .i64 p1, .int .i64 p2, .int .i64 qc, .int .i64 qa, .int .i64 qv, .int .i64 ppb, .bool so, .sl 0 0 0 6 l cap], n.v] [.rows [.int .i64, .int .i64, .int .i64, .int .i64, .int .i64, .int .i64] rs]).denN = Tree.denN (Tree.ite (!n.4) (Tree.ite n.4 (Tree.ite (true && (c0 == c0 && (c1 == c1 && (c2 == c2 && (c3 == c3 && (c4 == c4 && (c5 == c5 && (c6 == c6 && (c7 == c7 && true))))))) && true && (p1 == p1 && (p2 == p2 && (qc == qc && (qa == qa && (qv == qv && true)) && (c0 == c0 && (c1 == c1 && (c2 == c2 && (c3 == c3 && (c4 == c4 && (c5 == c5 && (c6 == c6 && (c7 == c7 && true))))))) && true))) && (Nte.eqB Nte.zero n && true)))) (Tree.leaf { v := V.bool (p1 == p1 && (p2 == p2 && (qc == qc && (qa == qa && (qv == qv && true)) && (c0 == c0 && (c1 == c1 && (c2 == c2 && (c3 == c3 && (c4 == c4 && (c5 == c5 && (c6 == c6 && (c7 == c7 && true))))))) && (true && (c0 == c0 && (c1 == c1 && (c2 == c2 && (c3 == c3 && (c4 == c4 && (c5 == c5 && (c6 == c6 && (c7 == c7 && true))))))) && true && (c0 == c0 && (c1 == c1 && (c2 == c2 && (c3 == c3 && (c4 == c4 && (c5 == c5 && (c6 == c6 && (c7 == c7 && true))))))) && true && true))))))), upd := [none], new := [] }) (Tree.leaf { v := V.fls, upd := [none], new := [] })) (Tree.ite (true && (c0 == c0 && (c1 == c1 && (c2 == c2 && (c3 == c3 && (c4 == c4 && (c5 == c5 && (c6 == c6 && (c7 == c7 && true))))))) && true && (p1 == p1 && (p2 == p2 && (qc == qc && (qa == qa && (qv == qv && true)) && (c0 == c0 && (c1 == c1 && (c2 == c2 && (c3 == c3 && (c4 == c4 && (c5 == c5 && (c6 == c6 && (c7 == c7 && true))))))) && true))) && true))) (Tree.leaf { v := V.bool (p1 == p1 && (p2 == p2 && (qc == qc && (qa == qa && (qv == qv && true)) && (c0 == c0 && (c1 == c1 && (c2 == c2 && (c3 == c3 && (c4 == c4 && (c5 == c5 && (c6 == c6 && (c7 == c7 && true))))))) && (true && (c0 == c0 && (c1 == c1 && (c2 == c2 && (c3 == c3 && (c4 == c4 && (c5 == c5 && (c6 == c6 && (c7 == c7 && true))))))) && true && (c0 == c0 && (c1 == c1 && (c2 == c2 && (c3 == c3 && (c4 == c4 && (c5 == c5 && (c6 == c6 && (c7 == c7 && true))))))) && true && true))))))), upd := [none], new := [] }) (Tree.leaf { v := V.fls, upd := [none], new := [] }))) (Tree.ite n.4 (Tree.ite (true && (c0 == c0 && (c1 == c1 && (c2 == c2 && (c3 == c3 && (c4 == c4 && (c5 == c5 && (c6 == c6 && (c7 == c7 && true))))))) && true && (p1 == p1 && (p2 == p2 && (qc == qc && (qa == qa && (qv == qv && true)) && (c0 == c0 && (c1 == c1 && (c2 == c2 && (c3 == c3 && (c4 == c4 && (c5 == c5 && (c6 == c6 && (c7 == c7 && true))))))) && true))) && (Nte.eqB n n && true)))) (Tree.leaf { v := V.bool (p1 == p1 && (p2 == p2 && (qc == qc && (qa == qa && (qv == qv && true)) && (c0 == c0 && (c1 == c1 && (c2 == c2 && (c3 == c3 && (c4 == c4 && (c5 == c5 && (c6 == c6 && (c7 == c7 && true))))))) && (true && (c0 == c0 && (c1 == c1 && (c2 == c2 && (c3 == c3 && (c4 == c4 && (c5 == c5 && (c6 == c6 && (c7 == c7 && true))))))) && true && (c0 == c0 && (c1 == c1 && (c2 == c2 && (c3 == c3 && (c4 == c4 && (c5 == c5 && (c6 == c6 && (c7 == c7 && true))))))) && true && true))))))), upd := [none], new := [] }) (Tree.leaf { v := V.fls, upd := [none], new := [] })) (Tree.ite (true && (c0 == c0 && (c1 == c1 && (c2 == c2 && (c3 == c3 && (c4 == c4 && (c5 == c5 && (c6 == c6 && (c7 == c7 && true))))))) && true && (p1 == p1 && (p2 == p2 && (qc == qc && (qa == qa && (qv == qv && true)) && (c0 == c0 && (c1 == c1 && (c2 == c2 && (c3 == c3 && (c4 == c4 && (c5 == c5 && (c6 == c6 && (c7 == c7 && true))))))) && true))) && (Nte.eqB n Nte.zero && true)))) (Tree.leaf { v := V.bool (p1 == p1 && (p2 == p2 && (qc == qc && (qa == qa && (qv == qv && true)) && (c0 == c0 && (c1 == c1 && (c2 == c2 && (c3 == c3 && (c4 == c4 && (c5 == c5 && (c6 == c6 && (c7 == c7 && true))))))) && (true && (c0 == c0 && (c1 == c1 && (c2 == c2 && (c3 == c3 && (c4 == c4 && (c5 == c5 && (c6 == c6 && (c7 == c7 && true))))))) && true && (c0 == c0 && (c1 == c1 && (c2 == c2 && (c3 == c3 && (c4 == c4 && (c5 == c5 && (c6 == c6 && (c7 == c7 && true))))))) && true && true))))))), upd := [none], new := [] }) (Tree.leaf { v := V.fls, upd := [none], new := [] })))) from by kernel_rfl]
      simp only [denN_ite, denN_leaf, denN_fail]
      simp only [beq_self_eq_true, Nte.eqB_self, Bool.and_self, if_true]
      cases h9 : n.va <;> simp only [Bool.not_true, Bool.not_false, Bool.false_eq_true, if_false, if_true] <;> rfl
    · simp [den_fail] at h
  · simp [den_fail] at h

noncomputable abbrev saysG : List (Nat × Rx.Spec) := [(10, trueS), (20, i20S), (21, i21S), (22, i22S), (23, i23S), (24, flS.N), (25, flS.N)]
theorem saysG_ok : GammaOK P saysG := .cons alive_ok (.cons i20_ok (.cons i21_ok (.cons i22_ok (.cons i23_ok (.cons flags_ok.N (.cons refFl_ok.N (.nil P)))))))
def saysS : Rx.Spec := fun a b => match a, b with
  | [v, w, .agg [.int .i64 dom, .int .i64 se]], [] => match Sts.of v, Prt.of w with
    | some s, some p => (.leaf ⟨.bool true, [], []⟩)
    | _, _ => .fail
  | _, _ => .fail
theorem says_ok : SpecOK P 5 saysS := by
  refine specOK_fast saysG_ok hm (Λ := loopsOf []) Try.func5 (by kernel_rfl) (LoopsOK.nil (by kernel_rfl)) ?_
  intro args bs r h
  unfold saysS at h
  split at h
  · split at h
    · rename_i v w dom se _ _ s p hs hp
      rw [Sts.of_eq hs]
      rw [Prt.of_eq hp]
      rw [den_leaf] at h; subst h
      rw [show (fFn P (specsOf saysG) (loopsOf []) Try.f5 [s.v, p.v, .agg [.int .i64 dom, .int .i64 se]] []).denN = Tree.denN (Tree.ite (true && ([dom, se].getD 0 0 == [dom, se].getD 0 0 && (flagsZ s == flagsZ s && (true && (Prt.eqB p p && ([dom, se].getD 1 0 == [dom, se].getD 1 0 && true))))) && (true && (true && (s.nt.1 == s.nt.1 && (s.g.1 == s.g.1 && (s.g.2 == s.g.2 && (Qua.eqB s.g.q s.g.q && (Ck.eqB s.g.g s.g.g && (s.1 == s.1 && (Prt.eqB p p && (Prt.eqB s.g.rcv s.g.rcv && true)))))) && (s.8 == s.8 && true)))))) (Tree.leaf { v := V.bool (flagsZ s == flagsZ s), upd := [], new := [] }) (Tree.leaf { v := V.fls, upd := [], new := [] })) from by kernel_rfl]
      simp only [denN_ite, denN_leaf, denN_fail]
      simp only [beq_self_eq_true, Prt.eqB_self, Qua.eqB_self, Ck.eqB_self, Bool.and_self, if_true]
    · simp [den_fail] at h
  · simp [den_fail] at h
end Go.Proofs.Ytkclmkjekllkiaa

set_option maxRecDepth 100000
set_option linter.unusedSimpArgs false
set_option linter.unusedVariables false
namespace Go.Proofs.Ytkclmkjekllkiaa
open Go.Rx

noncomputable abbrev mG : List (Nat × Rx.Spec) := [(10, trueS), (11, i11S), (17, folS), (18, i18S), (19, folS)]
theorem mG_ok : GammaOK P mG := .cons alive_ok (.cons i11_ok (.cons follow_ok (.cons i18_ok (.cons refFollow_ok (.nil P)))))
def msgS : Rx.Spec := fun a b => match a, b with
  | [v], [] => match Msg.of v with
    | some m => .need (inI64 m.h.fl) (.leaf ⟨.bool true, [], []⟩)
    | none => .fail
  | _, _ => .fail
theorem follows_ok : SpecOK P 4 msgS := by
  refine specOK_fast mG_ok hm (Λ := loopsOf []) Try.func4 (by kernel_rfl) (LoopsOK.nil (by kernel_rfl)) ?_
  intro args bs r h
  unfold msgS at h
  split at h
  · split at h
    · rename_i v m hm'
      rw [Msg.of_eq hm']
      rw [den_need, den_leaf] at h
      obtain ⟨hf, rfl⟩ := h
      rw [show (fFn P (specsOf mG) (loopsOf []) Try.f4 [m.v] []).denN = Tree.denN (Tree.ite (inI64 m.h.3) (Tree.ite (followB m) (Tree.ite (inI64 m.h.3) (Tree.ite (followB m) (Tree.ite (m.set.5 + 1 == m.set.5 + 1 && (Prt.eqB m.set.snd m.set.snd && (m.set.1 == m.set.1 && (m.set.2 == m.set.2 && (Qua.eqB m.set.q m.set.q && (Ck.eqB m.set.g m.set.g && true))) && (m.4 == m.4 && (bitB m.h.3 0 == bitB m.h.3 0 && (bitB m.h.3 1 == bitB m.h.3 1 && (bitB m.h.3 2 == bitB m.h.3 2 && true))) && (bitB m.h.3 3 == bitB m.h.3 3 && (bitB m.h.3 4 == bitB m.h.3 4 && (bitB m.h.3 5 == bitB m.h.3 5 && (m.6 == m.6 && true)))))))) (Tree.leaf { v := V.bool true, upd := [], new := [] }) (Tree.leaf { v := V.fls, upd := [], new := [] })) (Tree.ite (m.set.5 + 1 == 0 && (Prt.eqB m.set.snd Prt.zero && (m.set.1 == 0 && (m.set.2 == 0 && (Qua.eqB m.set.q Qua.zero && (Ck.eqB m.set.g Ck.zero && true))) && (m.4 == 0 && (bitB m.h.3 0 == false && (bitB m.h.3 1 == false && (bitB m.h.3 2 == false && true))) && (bitB m.h.3 3 == false && (bitB m.h.3 4 == false && (bitB m.h.3 5 == false && (m.6 == 0 && true)))))))) (Tree.leaf { v := V.bool false, upd := [], new := [] }) (Tree.leaf { v := V.fls, upd := [], new := [] }))) Tree.fail) (Tree.ite (inI64 m.h.3) (Tree.ite (followB m) (Tree.ite (0 == m.set.5 + 1 && (Prt.eqB Prt.zero m.set.snd && (0 == m.set.1 && (0 == m.set.2 && (Qua.eqB Qua.zero m.set.q && (Ck.eqB Ck.zero m.set.g && true))) && (0 == m.4 && (false == bitB m.h.3 0 && (false == bitB m.h.3 1 && (false == bitB m.h.3 2 && true))) && (false == bitB m.h.3 3 && (false == bitB m.h.3 4 && (false == bitB m.h.3 5 && (0 == m.6 && true)))))))) (Tree.leaf { v := V.bool false, upd := [], new := [] }) (Tree.leaf { v := V.fls, upd := [], new := [] })) (Tree.leaf { v := V.bool true, upd := [], new := [] })) Tree.fail)) Tree.fail) from by kernel_rfl]
      simp only [denN_ite, denN_leaf, denN_fail, hf, if_true]
      simp only [Prt.eqB_self, Qua.eqB_self, Ck.eqB_self, beq_self_eq_true, Bool.and_self, if_true]
      cases followB m <;> rfl
    · simp [den_fail] at h
  · simp [den_fail] at h

theorem far_G : GammaOK P [(10, trueS), (17, folS), (18, i18S)] := .cons alive_ok (.cons follow_ok (.cons i18_ok (.nil P)))
def farS : Rx.Spec := fun a b => match a, b with
  | [v, .int .i64 st], [] => match Msg.of v with
    | some m => .need (inI64 m.h.fl) (.leaf ⟨.bool true, [], []⟩)
    | none => .fail
  | _, _ => .fail
theorem far_ok : SpecOK P 8 farS := by
  refine specOK_fast far_G hm (Λ := loopsOf []) Try.func8 (by kernel_rfl) (LoopsOK.nil (by kernel_rfl)) ?_
  intro args bs r h
  unfold farS at h
  split at h
  · split at h
    · rename_i v st _ m hm'
      rw [Msg.of_eq hm']
      rw [den_need, den_leaf] at h
      obtain ⟨hf, rfl⟩ := h
      rw [show (fFn P (specsOf [(10, trueS), (17, folS), (18, i18S)]) (loopsOf []) Try.f8 [m.v, .int .i64 st] []).denN = Tree.denN (Tree.ite (inI64 m.h.3) (Tree.ite (followB { h := m.h, t := m.t, ask := m.ask, off := m.4, set := { p1 := m.set.1, p2 := m.set.2, q := m.set.q, g := m.set.g, st := st, snd := m.set.snd, rcv := m.set.rcv }, src := m.6 }) (Tree.ite (m.h.1 != 11) (Tree.leaf { v := V.fls, upd := [], new := [] }) (Tree.ite (decide (st < 0)) (Tree.leaf { v := V.fls, upd := [], new := [] }) (Tree.ite (decide (st ≥ 255)) (Tree.leaf { v := V.fls, upd := [], new := [] }) (Tree.ite (st + 1 == IntKind.i64.wrap (st + 1)) (Tree.leaf { v := V.bool (decide (st + 1 ≤ 255)), upd := [], new := [] }) (Tree.leaf { v := V.fls, upd := [], new := [] }))))) (Tree.ite (m.h.1 != 11) (Tree.leaf { v := V.bool true, upd := [], new := [] }) (Tree.ite (decide (st < 0)) (Tree.leaf { v := V.bool true, upd := [], new := [] }) (Tree.ite (decide (st ≥ 255)) (Tree.leaf { v := V.bool true, upd := [], new := [] }) (Tree.leaf { v := V.tru, upd := [], new := [] }))))) Tree.fail) from by kernel_rfl]
      simp only [denN_ite, denN_leaf, denN_fail, hf, if_true]
      generalize hm2 : ({ h := m.h, t := m.t, ask := m.ask, off := m.off, set := { p1 := m.set.p1, p2 := m.set.p2, q := m.set.q, g := m.set.g, st := st, snd := m.set.snd, rcv := m.set.rcv }, src := m.src } : Msg) = m2
      have e1 : m2.h = m.h := by rw [← hm2]
      have e2 : m2.set.st = st := by rw [← hm2]
      cases hF : followB m2 with
      | false =>
        simp only [Bool.false_eq_true, if_false, nrmT, iteR]
        exact resB (by simp)
      | true =>
        have hF' := hF
        simp only [followB, Bool.and_eq_true, decide_eq_true_eq] at hF'
        obtain ⟨⟨k1, k2⟩, k3⟩ := hF'
        obtain ⟨g0, g1, g2, g3⟩ := fol_flags k2 k1
        rw [e2] at g2 g3 k3
        rw [e1] at k1
        rw [if_pos rfl, if_neg (by simp [k1]), if_neg (by simp; omega), if_neg (by simp; omega), wrap64_id (n := st + 1) (by omega) (by omega), if_pos (by simp)]
        exact resB (by simp; omega)
    · simp [den_fail] at h
  · simp [den_fail] at h
end Go.Proofs.Ytkclmkjekllkiaa

set_option maxRecDepth 100000
set_option linter.unusedSimpArgs false
set_option linter.unusedVariables false
namespace Go.Proofs.Ytkclmkjekllkiaa
open Go.Rx

theorem flg_bits : ∀ a b c d e f : Bool, 0 ≤ one a 1 + one b 2 + one c 4 + one d 8 + one e 16 + one f 32 ∧ one a 1 + one b 2 + one c 4 + one d 8 + one e 16 + one f 32 ≤ 63 ∧
    bitB (one a 1 + one b 2 + one c 4 + one d 8 + one e 16 + one f 32) 0 = a ∧ bitB (one a 1 + one b 2 + one c 4 + one d 8 + one e 16 + one f 32) 1 = b ∧ bitB (one a 1 + one b 2 + one c 4 + one d 8 + one e 16 + one f 32) 2 = c ∧
    bitB (one a 1 + one b 2 + one c 4 + one d 8 + one e 16 + one f 32) 3 = d ∧ bitB (one a 1 + one b 2 + one c 4 + one d 8 + one e 16 + one f 32) 4 = e ∧ bitB (one a 1 + one b 2 + one c 4 + one d 8 + one e 16 + one f 32) 5 = f := by decide +kernel
theorem flg_eq (a b c d e f a' b' c' d' e' f' : Bool) : (one a 1 + one b 2 + one c 4 + one d 8 + one e 16 + one f 32 == one a' 1 + one b' 2 + one c' 4 + one d' 8 + one e' 16 + one f' 32) =
    (a == a' && (b == b' && (c == c' && (d == d' && (e == e' && (f == f' && true)))))) := by
  have h := flg_bits a b c d e f
  have h' := flg_bits a' b' c' d' e' f'
  rw [Bool.eq_iff_iff]
  simp only [beq_iff_eq, Bool.and_eq_true, and_true]
  constructor
  · intro he
    rw [he] at h
    exact ⟨h.2.2.1.symm.trans h'.2.2.1, h.2.2.2.1.symm.trans h'.2.2.2.1, h.2.2.2.2.1.symm.trans h'.2.2.2.2.1, h.2.2.2.2.2.1.symm.trans h'.2.2.2.2.2.1, h.2.2.2.2.2.2.1.symm.trans h'.2.2.2.2.2.2.1, h.2.2.2.2.2.2.2.symm.trans h'.2.2.2.2.2.2.2⟩
  · rintro ⟨rfl, rfl, rfl, rfl, rfl, rfl⟩
    rfl
noncomputable abbrev backG : List (Nat × Rx.Spec) := [(10, trueS), (11, i11S), (17, folS), (21, i21S), (22, i22S), (26, rightMS), (27, i27S)]
theorem backG_ok : GammaOK P backG := .cons alive_ok (.cons i11_ok (.cons follow_ok (.cons i21_ok (.cons i22_ok (.cons rightM_ok (.cons i27_ok (.nil P)))))))
def backS : Rx.Spec := fun a b => match a, b with
  | [v, w, .agg [.int .i64 dom, .int .i64 se]], [] => match Sts.of v, Prt.of w with
    | some s, some p => (.leaf ⟨.bool true, [], []⟩)
    | _, _ => .fail
  | _, _ => .fail
theorem back_ok : SpecOK P 6 backS := by
  refine specOK_fast backG_ok hm (Λ := loopsOf []) Try.func6 (by kernel_rfl) (LoopsOK.nil (by kernel_rfl)) ?_
  intro args bs r h
  unfold backS at h
  split at h
  · split at h
    · rename_i v w dom se _ _ s p hs hp
      rw [Sts.of_eq hs]
      rw [Prt.of_eq hp]
      rw [den_leaf] at h; subst h
      rw [show (fFn P (specsOf backG) (loopsOf []) Try.f6 [s.v, p.v, .agg [.int .i64 dom, .int .i64 se]] []).denN = Tree.denN (Tree.ite (inI64 (flagsZ s)) (Tree.ite (followB { h := { ty := 11, dom := [dom, se].getD 0 0, fl := flagsZ s, co := 0, src := p, se := [dom, se].getD 1 0, lo := 0 }, t := { sec := 0, ns := 0 }, ask := { c := { b0 := 0, b1 := 0, b2 := 0, b3 := 0, b4 := 0, b5 := 0, b6 := 0, b7 := 0 }, n := 0 }, off := s.nt.1, set := { p1 := s.g.1, p2 := s.g.2, q := s.g.q, g := s.g.g, st := s.1, snd := p, rcv := s.g.rcv }, src := s.8 }) (Tree.ite (s.1 + 1 == IntKind.i64.wrap (s.1 + 1) && (Prt.eqB p p && (s.g.1 == s.g.1 && (s.g.2 == s.g.2 && (Qua.eqB s.g.q s.g.q && (Ck.eqB s.g.g s.g.g && true))) && (s.nt.1 == s.nt.1 && (bitB (flagsZ s) 0 == s.nt.2 && (bitB (flagsZ s) 1 == s.nt.3 && (bitB (flagsZ s) 2 == s.nt.4 && true))) && (bitB (flagsZ s) 3 == s.5 && (bitB (flagsZ s) 4 == s.6 && (bitB (flagsZ s) 5 == s.7 && (s.8 == s.8 && true)))))))) (Tree.ite (s.1 + 1 == IntKind.i64.wrap (s.1 + 1) && (Prt.eqB p p && (s.g.1 == s.g.1 && (s.g.2 == s.g.2 && (Qua.eqB s.g.q s.g.q && (Ck.eqB s.g.g s.g.g && true))) && (s.nt.1 == s.nt.1 && (bitB (flagsZ s) 0 == s.nt.2 && (bitB (flagsZ s) 1 == s.nt.3 && (bitB (flagsZ s) 2 == s.nt.4 && true))) && (bitB (flagsZ s) 3 == s.5 && (bitB (flagsZ s) 4 == s.6 && (bitB (flagsZ s) 5 == s.7 && (s.8 == s.8 && true)))))))) (Tree.leaf { v := V.bool (decide (s.1 + 1 ≤ 255)), upd := [], new := [] }) (Tree.leaf { v := V.fls, upd := [], new := [] })) (Tree.leaf { v := V.fls, upd := [], new := [] })) (Tree.ite (inI64 (flagsZ s)) (Tree.ite (!rightM { h := { ty := 11, dom := [dom, se].getD 0 0, fl := flagsZ s, co := 0, src := p, se := [dom, se].getD 1 0, lo := 0 }, t := { sec := 0, ns := 0 }, ask := { c := { b0 := 0, b1 := 0, b2 := 0, b3 := 0, b4 := 0, b5 := 0, b6 := 0, b7 := 0 }, n := 0 }, off := s.nt.1, set := { p1 := s.g.1, p2 := s.g.2, q := s.g.q, g := s.g.g, st := s.1, snd := p, rcv := s.g.rcv }, src := s.8 }) (Tree.leaf { v := V.tru, upd := [], new := [] }) (Tree.leaf { v := V.bool (decide (s.1 ≥ 255)), upd := [], new := [] })) Tree.fail)) Tree.fail) from by kernel_rfl]
      simp only [denN_ite, denN_leaf, denN_fail]
      have hfz := (flg_bits s.nt.l61 s.nt.l59 s.nt.va s.ptp s.tra s.fre).1
      obtain ⟨g0, g1, b0, b1, b2, b3, b4, b5⟩ : 0 ≤ flagsZ s ∧ flagsZ s ≤ 63 ∧ bitB (flagsZ s) 0 = s.nt.l61 ∧ bitB (flagsZ s) 1 = s.nt.l59 ∧ bitB (flagsZ s) 2 = s.nt.va ∧ bitB (flagsZ s) 3 = s.ptp ∧ bitB (flagsZ s) 4 = s.tra ∧ bitB (flagsZ s) 5 = s.fre :=
        flg_bits s.nt.l61 s.nt.l59 s.nt.va s.ptp s.tra s.fre
      have hin : inI64 (flagsZ s) = true := by simp only [inI64, Bool.and_eq_true, decide_eq_true_eq]; omega
      rw [if_pos hin, b0, b1, b2, b3, b4, b5]
      generalize hm2 : (⟨⟨11, [dom, se].getD 0 0, flagsZ s, 0, p, [dom, se].getD 1 0, 0⟩, ⟨0, 0⟩, ⟨⟨0, 0, 0, 0, 0, 0, 0, 0⟩, 0⟩, s.nt.off, ⟨s.g.p1, s.g.p2, s.g.q, s.g.g, s.st, p, s.g.rcv⟩, s.src⟩ : Msg) = m2
      have e1 : m2.h.ty = 11 := by rw [← hm2]
      have e2 : m2.set.st = s.st := by rw [← hm2]
      cases hF : followB m2 with
      | true =>
        have hF' := hF
        simp only [followB, Bool.and_eq_true, decide_eq_true_eq] at hF'
        obtain ⟨⟨k1, k2⟩, k3⟩ := hF'
        obtain ⟨_, _, g2, g3⟩ := fol_flags k2 k1
        rw [e2] at g2 g3 k3
        rw [wrap64_id (n := s.st + 1) (by omega) (by omega)]
        simp only [Prt.eqB_self, Qua.eqB_self, Ck.eqB_self, beq_self_eq_true, Bool.and_self, if_true]
        exact resB (by simp; omega)
      | false =>
        simp only [Bool.false_eq_true, if_false, hin, if_true]
        cases hR : rightM m2 with
        | false => rfl
        | true =>
          simp only [Bool.not_true, Bool.false_eq_true, if_false]
          refine resB ?_
          simp only [followB, hR, e1, e2, Bool.and_true, decide_true, Bool.true_and, decide_eq_false_iff_not] at hF
          simp; omega
    · simp [den_fail] at h
  · simp [den_fail] at h
noncomputable abbrev sameG : List (Nat × Rx.Spec) := [(10, trueS), (22, i22S), (27, i27S)]
theorem sameG_ok : GammaOK P sameG := .cons alive_ok (.cons i22_ok (.cons i27_ok (.nil P)))
def sameS : Rx.Spec := fun a b => match a, b with
  | [v, w], [] => match Sts.of v, Sts.of w with
    | some s, some t => (.leaf ⟨.bool true, [], []⟩)
    | _, _ => .fail
  | _, _ => .fail
theorem same_ok : SpecOK P 7 sameS := by
  refine specOK_fast sameG_ok hm (Λ := loopsOf []) Try.func7 (by kernel_rfl) (LoopsOK.nil (by kernel_rfl)) ?_
  intro args bs r h
  unfold sameS at h
  split at h
  · split at h
    · rename_i v w _ _ s t hs ht
      rw [Sts.of_eq hs]
      rw [Sts.of_eq ht]
      rw [den_leaf] at h; subst h
      rw [show (fFn P (specsOf sameG) (loopsOf []) Try.f7 [s.v, t.v] []).denN = Tree.denN (Tree.ite ((Sts.eqB s t) == (Sts.eqB s t)) (Tree.leaf { v := V.bool (Sts.eqB s s), upd := [], new := [] }) (Tree.leaf { v := V.fls, upd := [], new := [] })) from by kernel_rfl]
      simp only [denN_ite, denN_leaf, denN_fail]
      simp only [beq_self_eq_true, if_true, Sts.eqB_self]
    · simp [den_fail] at h
  · simp [den_fail] at h
noncomputable abbrev flgG : List (Nat × Rx.Spec) := [(10, trueS), (22, i22S), (24, flS.N)]
theorem flgG_ok : GammaOK P flgG := .cons alive_ok (.cons i22_ok (.cons flags_ok.N (.nil P)))
def flgS : Rx.Spec := fun a b => match a, b with
  | [v, w], [] => match Sts.of v, Sts.of w with
    | some s, some t => (.leaf ⟨.bool true, [], []⟩)
    | _, _ => .fail
  | _, _ => .fail
theorem flg_ok : SpecOK P 9 flgS := by
  refine specOK_fast flgG_ok hm (Λ := loopsOf []) Try.func9 (by kernel_rfl) (LoopsOK.nil (by kernel_rfl)) ?_
  intro args bs r h
  unfold flgS at h
  split at h
  · split at h
    · rename_i v w _ _ s t hs ht
      rw [Sts.of_eq hs]
      rw [Sts.of_eq ht]
      rw [den_leaf] at h; subst h
      rw [show (fFn P (specsOf flgG) (loopsOf []) Try.f9 [s.v, t.v] []).denN = Tree.denN (Tree.ite ((flagsZ s == flagsZ t) == (s.nt.2 == t.nt.2 && (s.nt.3 == t.nt.3 && (s.nt.4 == t.nt.4 && (s.5 == t.5 && (s.6 == t.6 && (s.7 == t.7 && true))))))) (Tree.ite (decide (flagsZ s ≥ 0)) (Tree.leaf { v := V.bool (decide (flagsZ s < 64)), upd := [], new := [] }) (Tree.leaf { v := V.fls, upd := [], new := [] })) (Tree.leaf { v := V.fls, upd := [], new := [] })) from by kernel_rfl]
      simp only [denN_ite, denN_leaf, denN_fail]
      obtain ⟨g0, g1, _⟩ : 0 ≤ flagsZ s ∧ flagsZ s ≤ 63 ∧ _ := flg_bits s.nt.l61 s.nt.l59 s.nt.va s.ptp s.tra s.fre
      have e : (flagsZ s == flagsZ t) = (s.nt.l61 == t.nt.l61 && (s.nt.l59 == t.nt.l59 && (s.nt.va == t.nt.va && (s.ptp == t.ptp && (s.tra == t.tra && (s.fre == t.fre && true)))))) :=
        flg_eq s.nt.l61 s.nt.l59 s.nt.va s.ptp s.tra s.fre t.nt.l61 t.nt.l59 t.nt.va t.ptp t.tra t.fre
      rw [e, beq_self_eq_true, if_pos rfl, if_pos (by simpa using g0)]
      exact resB (by simp; omega)
    · simp [den_fail] at h
  · simp [den_fail] at h
end Go.Proofs.Ytkclmkjekllkiaa
