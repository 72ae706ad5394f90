/- Layer 6: three laws told. The conditions stand in the specifications. -/
import Derived.Test.YthjldfmlclpdbaaFrC
set_option linter.unusedSimpArgs false
set_option linter.unusedVariables false
set_option linter.unnecessarySimpa false
set_option linter.unusedSectionVars false
set_option maxRecDepth 100000
set_option linter.unusedSimpArgs false
set_option linter.unusedVariables false
namespace Go.Proofs.Ythjldfmlclpdbaa
open Go.Rx

noncomputable abbrev wrG : List (Nat × Rx.Spec) := [(10, encMS), (11, i11S), (12, encMS), (13, trueS), (14, rightMS), (15, rightMS)]
theorem wrG_ok : GammaOK P wrG := .cons encM_ok (.cons i11_ok (.cons refEncM_ok (.cons alive_ok (.cons rightM_ok (.cons refRightM_ok (.nil P))))))
def fwS : Rx.Spec := fun a b => match a, b with
  | [v], [] => match Msg.of v with
    | some m => .need (inI64 m.h.fl && msgZ m) (.leaf ⟨.bool true, [], []⟩)
    | none => .fail
  | _, _ => .fail
theorem fw_ok : SpecOK P 3 fwS := by
  refine specOK_fast wrG_ok hm (Λ := loopsOf []) Try.func3 (by kernel_rfl) (LoopsOK.nil (by kernel_rfl)) ?_
  intro args bs r h
  unfold fwS at h
  split at h
  · split at h
    · rename_i v m hm'
      rw [Msg.of_eq hm']
      rw [den_need, den_leaf] at h
      obtain ⟨hs, rfl⟩ := h
      have hfl : inI64 m.h.fl = true := by simp only [Bool.and_eq_true] at hs; exact hs.1
      rw [show (fFn P (specsOf wrG) (loopsOf []) Try.f3 [m.v] []).denN = Tree.denN (Tree.ite (inI64 m.h.3 && msgZ m) (Tree.ite (rightM m) (Tree.ite (inI64 m.h.3 && msgZ m) (Tree.ite (rightM m) (Tree.ite (decide (0 + (msgBytes m).length ≤ (msgBytes m).length)) (Tree.ite (decide (0 + (msgBytes m).length ≤ (msgBytes m).length)) (Tree.ite (sEq (bytesOf (List.take (msgBytes m).length (List.drop 0 (msgBytes m)))) (bytesOf (List.take (msgBytes m).length (List.drop 0 (msgBytes m))))) (Tree.ite (inI64 m.h.3) (Tree.ite (inI64 m.h.3) (Tree.leaf { v := V.bool (rightM m == rightM m), upd := [], new := [] }) Tree.fail) Tree.fail) (Tree.leaf { v := V.fls, upd := [], new := [] })) Tree.fail) Tree.fail) (Tree.ite (decide (0 + (msgBytes m).length ≤ (msgBytes m).length)) (Tree.ite (sEq (bytesOf (List.take (msgBytes m).length (List.drop 0 (msgBytes m)))) (bytesOf (List.take 0 (List.drop 0 [])))) (Tree.leaf { v := V.fls, upd := [], new := [] }) (Tree.leaf { v := V.fls, upd := [], new := [] })) Tree.fail)) Tree.fail) (Tree.ite (inI64 m.h.3 && msgZ m) (Tree.ite (rightM m) (Tree.ite (decide (0 + (msgBytes m).length ≤ (msgBytes m).length)) (Tree.ite (sEq (bytesOf (List.take 0 (List.drop 0 []))) (bytesOf (List.take (msgBytes m).length (List.drop 0 (msgBytes m))))) (Tree.leaf { v := V.fls, upd := [], new := [] }) (Tree.leaf { v := V.fls, upd := [], new := [] })) Tree.fail) (Tree.ite (inI64 m.h.3) (Tree.ite (inI64 m.h.3) (Tree.leaf { v := V.bool (rightM m == rightM m), upd := [], new := [] }) Tree.fail) Tree.fail)) Tree.fail)) Tree.fail) from by kernel_rfl]
      simp only [denN_ite, denN_leaf, denN_fail]
      simp only [hs, if_true]
      simp only [hfl, sEq_refl, beq_self_eq_true, if_true]
      cases rightM m with
      | true => rw [if_pos rfl, if_pos rfl, if_pos (by simp), if_pos (by simp)]
      | false => rfl
    · simp [den_fail] at h
  · simp [den_fail] at h
noncomputable abbrev tmG : List (Nat × Rx.Spec) := [(10, encMS), (11, i11S), (13, trueS)]
theorem tmG_ok : GammaOK P tmG := .cons encM_ok (.cons i11_ok (.cons alive_ok (.nil P)))
def ftS : Rx.Spec := fun a b => match a, b with
  | [v, w], [] => match Msg.of v, Stm.of w with
    | some m, some t => .need (inI64 m.h.fl && msgZ m) (.leaf ⟨.bool true, [], []⟩)
    | _, _ => .fail
  | _, _ => .fail
theorem ft_ok : SpecOK P 8 ftS := by
  refine specOK_fast tmG_ok hm (Λ := loopsOf []) Try.func8 (by kernel_rfl) (LoopsOK.nil (by kernel_rfl)) ?_
  intro args bs r h
  unfold ftS at h
  split at h
  · split at h
    · rename_i v w _ _ m t hm' ht'
      rw [Msg.of_eq hm', Stm.of_eq ht']
      rw [den_need, den_leaf] at h
      obtain ⟨hs, rfl⟩ := h
      rw [show (fFn P (specsOf tmG) (loopsOf []) Try.f8 [m.v, t.v] []).denN = Tree.denN (Tree.ite (inI64 m.h.3 && msgZ m) (Tree.ite (rightM m) (Tree.ite (inI64 m.h.3 && msgZ { h := m.h, t := t, ask := m.ask, off := m.4, set := m.set, src := m.6 }) (Tree.ite (rightM { h := m.h, t := t, ask := m.ask, off := m.4, set := m.set, src := m.6 }) (Tree.ite ((↑(msgBytes m).length : Int) != (↑(msgBytes { h := m.h, t := t, ask := m.ask, off := m.4, set := m.set, src := m.6 }).length : Int)) (Tree.leaf { v := V.fls, upd := [], new := [] }) (Tree.ite (true && decide (34 ≤ (↑(msgBytes m).length : Int))) (Tree.ite (true && decide (34 ≤ (↑(msgBytes { h := m.h, t := t, ask := m.ask, off := m.4, set := m.set, src := m.6 }).length : Int))) (Tree.ite (sEq (bytesOf (List.take 34 (List.drop 0 (msgBytes m)))) (bytesOf (List.take 34 (List.drop 0 (msgBytes { h := m.h, t := t, ask := m.ask, off := m.4, set := m.set, src := m.6 }))))) (Tree.ite (true && decide (44 ≤ (↑(msgBytes m).length : Int)) && decide ((↑(msgBytes m).length : Int) ≤ (↑(msgBytes m).length : Int))) (Tree.ite (decide (44 + ((msgBytes m).length - 44) ≤ (msgBytes m).length)) (Tree.ite (true && decide (44 ≤ (↑(msgBytes { h := m.h, t := t, ask := m.ask, off := m.4, set := m.set, src := m.6 }).length : Int)) && decide ((↑(msgBytes { h := m.h, t := t, ask := m.ask, off := m.4, set := m.set, src := m.6 }).length : Int) ≤ (↑(msgBytes { h := m.h, t := t, ask := m.ask, off := m.4, set := m.set, src := m.6 }).length : Int))) (Tree.ite (decide (44 + ((msgBytes { h := m.h, t := t, ask := m.ask, off := m.4, set := m.set, src := m.6 }).length - 44) ≤ (msgBytes { h := m.h, t := t, ask := m.ask, off := m.4, set := m.set, src := m.6 }).length)) (Tree.leaf { v := V.bool (sEq (bytesOf (List.take ((msgBytes m).length - 44) (List.drop 44 (msgBytes m)))) (bytesOf (List.take ((msgBytes { h := m.h, t := t, ask := m.ask, off := m.4, set := m.set, src := m.6 }).length - 44) (List.drop 44 (msgBytes { h := m.h, t := t, ask := m.ask, off := m.4, set := m.set, src := m.6 }))))), upd := [], new := [] }) Tree.fail) Tree.fail) Tree.fail) Tree.fail) (Tree.leaf { v := V.fls, upd := [], new := [] })) Tree.fail) Tree.fail)) (Tree.leaf { v := V.bool true, upd := [], new := [] })) Tree.fail) (Tree.ite (inI64 m.h.3 && msgZ { h := m.h, t := t, ask := m.ask, off := m.4, set := m.set, src := m.6 }) (Tree.ite (rightM { h := m.h, t := t, ask := m.ask, off := m.4, set := m.set, src := m.6 }) (Tree.leaf { v := V.bool true, upd := [], new := [] }) (Tree.leaf { v := V.bool true, upd := [], new := [] })) Tree.fail)) Tree.fail) from by kernel_rfl]
      simp only [denN_ite, denN_leaf, denN_fail]
      obtain ⟨m2, hm2⟩ : ∃ m2 : Msg, m2 = ⟨m.h, t, m.ask, m.off, m.set, m.src⟩ := ⟨_, rfl⟩
      have hs2 : (inI64 m.h.fl && msgZ m2) = true := by rw [hm2]; exact hs
      have e1 : m2.h = m.h := by rw [hm2]
      have e2 : bodyBytes m2 = bodyBytes m := by rw [hm2]; rfl
      rw [← hm2]
      clear hm2
      rw [if_pos hs, if_pos hs2]
      cases hr : rightM m with
      | false => simp only [Bool.false_eq_true, if_false, hs2, if_true]; cases rightM m2 <;> rfl
      | true =>
        rw [if_pos rfl]
        cases hr2 : rightM m2 with
        | false => rfl
        | true =>
          have hh : hdB m.h = true := by have := hr; unfold rightM at this; simp only [Bool.and_eq_true] at this; exact this.1.1
          have hh2 : hdB m2.h = true := by rw [e1]; exact hh
          have l1 := msg_length hh
          have l2 := msg_length hh2
          rw [e1] at l2
          have hlz := (longZ_of (right_facts hh).1).1
          have t1 : List.take 34 (msgBytes m) = hdBytes m.h := rfl
          have t2 : List.take 34 (msgBytes m2) = hdBytes m.h := by rw [← e1]; rfl
          have d1 : List.drop 44 (msgBytes m) = bodyBytes m := by unfold msgBytes; rw [List.drop_append, hdBytes_len]; rfl
          have d2 : List.drop 44 (msgBytes m2) = bodyBytes m := by rw [← e2]; unfold msgBytes; rw [List.drop_append, hdBytes_len]; rfl
          rw [if_pos rfl, if_neg (by simp; omega), if_pos (by simp; omega), if_pos (by simp; omega), List.drop_zero, List.drop_zero, t1, t2, if_pos (sEq_refl _)]
          rw [if_pos (by simp; omega), if_pos (by simp; omega), if_pos (by simp; omega), if_pos (by simp; omega), d1, d2, show (msgBytes m).length - 44 = (msgBytes m2).length - 44 by omega]
          exact resB (sEq_refl _)
    · simp [den_fail] at h
  · simp [den_fail] at h
noncomputable abbrev ulG : List (Nat × Rx.Spec) := [(10, encMS), (11, i11S), (13, trueS)]
theorem ulG_ok : GammaOK P ulG := .cons encM_ok (.cons i11_ok (.cons alive_ok (.nil P)))
def fuS : Rx.Spec := fun a b => match a, b with
  | [v, w], [] => match Msg.of v, Msg.of w with
    | some m, some n => .need (inI64 m.h.fl && msgZ m) (.need (inI64 n.h.fl && msgZ n) (.leaf ⟨.bool true, [], []⟩))
    | _, _ => .fail
  | _, _ => .fail
theorem fu_ok : SpecOK P 9 fuS := by
  refine specOK_fast ulG_ok hm (Λ := loopsOf []) Try.func9 (by kernel_rfl) (LoopsOK.nil (by kernel_rfl)) ?_
  intro args bs r h
  unfold fuS at h
  split at h
  · split at h
    · rename_i v w _ _ m n hm' hn'
      rw [Msg.of_eq hm', Msg.of_eq hn']
      rw [den_need, den_need, den_leaf] at h
      obtain ⟨hs, ht, rfl⟩ := h
      rw [show (fFn P (specsOf ulG) (loopsOf []) Try.f9 [m.v, n.v] []).denN = Tree.denN (Tree.ite (inI64 m.h.3 && msgZ m) (Tree.ite (rightM m) (Tree.ite (inI64 n.h.3 && msgZ n) (Tree.ite (rightM n) (Tree.ite (decide (0 + (msgBytes m).length ≤ (msgBytes m).length)) (Tree.ite (decide (0 + (msgBytes n).length ≤ (msgBytes n).length)) (Tree.leaf { v := V.bool (sEq (bytesOf (List.take (msgBytes m).length (List.drop 0 (msgBytes m)))) (bytesOf (List.take (msgBytes n).length (List.drop 0 (msgBytes n)))) == (Msg.eqB m n)), upd := [], new := [] }) Tree.fail) Tree.fail) (Tree.leaf { v := V.tru, upd := [], new := [] })) Tree.fail) (Tree.ite (inI64 n.h.3 && msgZ n) (Tree.ite (rightM n) (Tree.leaf { v := V.tru, upd := [], new := [] }) (Tree.leaf { v := V.tru, upd := [], new := [] })) Tree.fail)) Tree.fail) from by kernel_rfl]
      simp only [denN_ite, denN_leaf, denN_fail]
      simp only [hs, ht, if_true]
      cases hm1 : rightM m with
      | false => cases rightM n <;> rfl
      | true =>
        cases hn1 : rightM n with
        | false => rfl
        | true =>
          simp only [Bool.and_eq_true] at hs ht
          rw [if_pos rfl, if_pos rfl, if_pos (by simp), if_pos (by simp), List.drop_zero, List.drop_zero, List.take_length, List.take_length, bytesOf_inj (msg_bytes hm1 hs.2) (msg_bytes hn1 ht.2), Msg.eqB_eq]
          refine resB ?_
          have : msgBytes m = msgBytes n ↔ m = n := by
            constructor
            · intro e
              rw [← (msg_told hm1 hs.2).2.1, ← (msg_told hn1 ht.2).2.1, e]
            · rintro rfl; rfl
          simp [this]
    · simp [den_fail] at h
  · simp [den_fail] at h
end Go.Proofs.Ythjldfmlclpdbaa
