/- Layer 6: what is read, and read back. The conditions stand in the specifications. -/
import Derived.Test.YthjldfmlclpdbaaFrC
import Derived.Test.YthjldfmlclpdbaaFrE
import Derived.Test.YthjldfmlclpdbaaFrD
set_option linter.unusedSimpArgs false
set_option linter.unusedVariables false
set_option linter.unnecessarySimpa false
set_option linter.unusedSectionVars false
set_option maxRecDepth 100000
set_option linter.unusedSimpArgs false
set_option linter.unusedVariables false
namespace Go.Proofs.Ythjldfmlclpdbaa
open Go.Rx

def decGS (D : List Int → Msg) (E : List Int → Int) : Rx.Spec := fun a b => match a, b with
  | [.sl 0 0 0 1 l cap], [.ints .u8 xs] => .need (allByte xs && decide (l = xs.length) && decide (xs.length ≤ 9223372036854775806)) (.ite (E xs == 0) (.leaf ⟨.tup [(D xs).v, .int .i64 0], [none], []⟩) (.leaf ⟨.tup [Msg.zero.v, .int .i64 (E xs)], [none], []⟩))
  | _, _ => .fail
theorem decGS_eq : decGS dMsg mErr = decMS := rfl
noncomputable abbrev rdsU (D : List Int → Msg) (E : List Int → Int) : List (Nat × Rx.Spec) := [(16, decGS D E), (17, decGS D E), (13, trueS), (18, i18S)]
noncomputable abbrev rdsG : List (Nat × Rx.Spec) := [(16, decMS), (17, decMS), (13, trueS), (18, i18S)]
theorem rdsG_ok : GammaOK P rdsG := .cons decM_ok (.cons refDecM_ok (.cons alive_ok (.cons i18_ok (.nil P))))
def frS : Rx.Spec := fun a b => match a, b with
  | [.sl 0 0 0 1 l cap], [.ints .u8 xs] => .need (allByte xs && decide (l = xs.length) && decide (xs.length ≤ 9223372036854775806)) (.leaf ⟨.bool true, [none], []⟩)
  | _, _ => .fail
theorem fr_nf (dm : List Int → Msg) (em : List Int → Int) (cap : Option Nat) (xs : List Int) (hb : allByte xs = true) (hl : decide (xs.length ≤ 9223372036854775806) = true) :
    (fFn P (specsOf (rdsU dm em)) (loopsOf []) Try.f4 [.sl 0 0 0 1 xs.length cap] [.ints .u8 xs]).denN = some (Res.nrm ⟨.bool true, [none], []⟩) := by
  rw [show (fFn P (specsOf (rdsU dm em)) (loopsOf []) Try.f4 [.sl 0 0 0 1 xs.length cap] [.ints .u8 xs]).denN = Tree.denN (Tree.ite (allByte xs && decide (xs.length = xs.length) && decide (xs.length ≤ 9223372036854775806)) (Tree.ite (em xs == 0) (Tree.ite (allByte xs && decide (xs.length = xs.length) && decide (xs.length ≤ 9223372036854775806)) (Tree.ite (em xs == 0) (Tree.ite (Msg.eqB (dm xs) (dm xs)) (Tree.leaf { v := V.bool true, upd := [none], new := [] }) (Tree.leaf { v := V.fls, upd := [none], new := [] })) (Tree.ite (Msg.eqB (dm xs) Msg.zero) (Tree.leaf { v := V.bool (0 == em xs), upd := [none], new := [] }) (Tree.leaf { v := V.fls, upd := [none], new := [] }))) Tree.fail) (Tree.ite (allByte xs && decide (xs.length = xs.length) && decide (xs.length ≤ 9223372036854775806)) (Tree.ite (em xs == 0) (Tree.ite (Msg.eqB Msg.zero (dm xs)) (Tree.leaf { v := V.bool (em xs == 0), upd := [none], new := [] }) (Tree.leaf { v := V.fls, upd := [none], new := [] })) (Tree.leaf { v := V.bool (em xs == em xs), upd := [none], new := [] })) Tree.fail)) Tree.fail) from by kernel_rfl]
  simp only [denN_ite, denN_leaf, denN_fail, hb, hl, decide_true, Bool.and_true, if_true, Msg.eqB_self, beq_self_eq_true]
  cases em xs == 0 <;> rfl
theorem fr_ok : SpecOK P 4 frS := by
  refine specOK_fast rdsG_ok hm (Λ := loopsOf []) Try.func4 (by kernel_rfl) (LoopsOK.nil (by kernel_rfl)) ?_
  intro args bs r h
  unfold frS at h
  split at h
  · rename_i l cap xs
    rw [den_need, den_leaf] at h
    obtain ⟨hs, rfl⟩ := h
    have hl : l = xs.length := by simp only [Bool.and_eq_true, decide_eq_true_eq] at hs; exact hs.1.2
    subst hl
    simp only [Bool.and_eq_true] at hs
    exact fr_nf dMsg mErr cap xs hs.1.1 hs.2
  · simp [den_fail] at h
end Go.Proofs.Ythjldfmlclpdbaa

set_option maxRecDepth 100000
set_option linter.unusedSimpArgs false
set_option linter.unusedVariables false
namespace Go.Proofs.Ythjldfmlclpdbaa
open Go.Rx

/-- What is read, or nothing. -/
theorem read_cases {xs : List Int} (hb : allByte xs = true) (h : mErr xs = 0) : decErr xs = 0 ∧ rightM (dMsg xs) = true ∧ msgBytes (dMsg xs) = xs ∧ msgZ (dMsg xs) = true ∧ inI64 (dMsg xs).h.fl = true := by
  have h0 : decErr xs = 0 := by
    by_cases h0 : decErr xs = 0
    · exact h0
    · unfold mErr at h; rw [if_pos h0] at h; exact absurd h h0
  have ho : okBody xs = true := by
    unfold mErr at h; rw [if_neg (by simpa using h0)] at h
    cases hk : okBody xs with
    | true => rfl
    | false => rw [hk] at h; simp at h
  obtain ⟨k1, k2, k3, k4, k5⟩ := told_right hb h0
  have hk := body_ok hb h0
  rw [ho] at hk
  simp only [Bool.and_eq_true, decide_eq_true_eq] at hk
  refine ⟨h0, hk.1, hk.2, dMsg_z hb k3, ?_⟩
  have g6 := allByte_getD hb 6
  have g7 := allByte_getD hb 7
  show inI64 (xs.getD 6 0 * 256 + xs.getD 7 0) = true
  simp only [inI64, Bool.and_eq_true, decide_eq_true_eq]
  omega
/-- What was written, read. -/
theorem written {m : Msg} (hr : rightM m = true) (hz : msgZ m = true) : mErr (msgBytes m) = 0 ∧ dMsg (msgBytes m) = m ∧ allByte (msgBytes m) = true ∧ ((msgBytes m).length : Int) = longZ m.h.ty := by
  obtain ⟨a, b, c⟩ := msg_told hr hz
  refine ⟨?_, b, msg_bytes hr hz, msg_length (by simp only [rightM, Bool.and_eq_true] at hr; grind)⟩
  unfold mErr
  rw [if_neg (by simpa using a), if_pos c]
noncomputable abbrev bkU (dm : List Int → Msg) (em : List Int → Int) : List (Nat × Rx.Spec) := [(10, encMS), (11, i11S), (13, trueS), (14, rightMS), (16, decGS dm em), (18, i18S), (19, longS)]
theorem bkU_ok : GammaOK P (bkU dMsg mErr) := .cons encM_ok (.cons i11_ok (.cons alive_ok (.cons rightM_ok (.cons decM_ok (.cons i18_ok (.cons long_ok (.nil P)))))))
def fbS : Rx.Spec := fun a b => match a, b with
  | [v, .sl 0 0 0 1 l cap], [.ints .u8 xs] => match Msg.of v with
    | some m => .need (inI64 m.h.fl && msgZ m) (.need (allByte xs && decide (l = xs.length) && decide (xs.length ≤ 9223372036854775806)) (.leaf ⟨.bool true, [none], []⟩))
    | none => .fail
  | _, _ => .fail
theorem fb_nf (dm : List Int → Msg) (em : List Int → Int) (m : Msg) (cap : Option Nat) (xs : List Int) (hm1 : inI64 m.h.fl = true) (hm2 : msgZ m = true) (hb : allByte xs = true) (hl : decide (xs.length ≤ 9223372036854775806) = true)
    (hw : rightM m = true → em (msgBytes m) = 0 ∧ dm (msgBytes m) = m ∧ allByte (msgBytes m) = true ∧ ((msgBytes m).length : Int) = longZ m.h.ty)
    (hr : em xs = 0 → rightM (dm xs) = true ∧ msgBytes (dm xs) = xs ∧ msgZ (dm xs) = true ∧ inI64 (dm xs).h.fl = true) :
    (fFn P (specsOf (bkU dm em)) (loopsOf []) Try.f5 [m.v, .sl 0 0 0 1 xs.length cap] [.ints .u8 xs]).denN = some (Res.nrm ⟨.bool true, [none], []⟩) := by
  rw [show (fFn P (specsOf (bkU dm em)) (loopsOf []) Try.f5 [m.v, .sl 0 0 0 1 xs.length cap] [.ints .u8 xs]).denN = Tree.denN (Tree.ite (inI64 m.h.3 && msgZ m) (Tree.ite (rightM m) (Tree.ite (allByte (msgBytes m) && decide ((msgBytes m).length = (msgBytes m).length) && decide ((msgBytes m).length ≤ 9223372036854775806)) (Tree.ite (em (msgBytes m) == 0) (Tree.ite (!(Msg.eqB (dm (msgBytes m)) m)) (Tree.leaf { v := V.fls, upd := [none], new := [] }) (Tree.ite ((↑(msgBytes m).length : Int) != longZ m.h.1) (Tree.leaf { v := V.fls, upd := [none], new := [] }) (Tree.ite (allByte xs && decide (xs.length = xs.length) && decide (xs.length ≤ 9223372036854775806)) (Tree.ite (em xs == 0) (Tree.ite (inI64 (dm xs).h.3 && msgZ (dm xs)) (Tree.ite (rightM (dm xs)) (Tree.ite (decide (0 + (msgBytes (dm xs)).length ≤ (msgBytes (dm xs)).length)) (Tree.ite (decide (0 + xs.length ≤ xs.length)) (Tree.ite (sEq (bytesOf (List.take (msgBytes (dm xs)).length (List.drop 0 (msgBytes (dm xs))))) (bytesOf (List.take xs.length (List.drop 0 xs)))) (Tree.ite (inI64 (dm xs).h.3) (Tree.leaf { v := V.bool (rightM (dm xs)), upd := [none], new := [] }) Tree.fail) (Tree.leaf { v := V.fls, upd := [none], new := [] })) Tree.fail) Tree.fail) (Tree.leaf { v := V.fls, upd := [none], new := [] })) Tree.fail) (Tree.ite (em xs != 0) (Tree.leaf { v := V.bool true, upd := [none], new := [] }) (Tree.leaf { v := V.fls, upd := [none], new := [] }))) Tree.fail))) (Tree.ite (em (msgBytes m) != 0) (Tree.leaf { v := V.fls, upd := [none], new := [] }) (Tree.ite (!(Msg.eqB Msg.zero m)) (Tree.leaf { v := V.fls, upd := [none], new := [] }) (Tree.ite ((↑(msgBytes m).length : Int) != longZ m.h.1) (Tree.leaf { v := V.fls, upd := [none], new := [] }) (Tree.ite (allByte xs && decide (xs.length = xs.length) && decide (xs.length ≤ 9223372036854775806)) (Tree.ite (em xs == 0) (Tree.ite (inI64 (dm xs).h.3 && msgZ (dm xs)) (Tree.ite (rightM (dm xs)) (Tree.ite (decide (0 + (msgBytes (dm xs)).length ≤ (msgBytes (dm xs)).length)) (Tree.ite (decide (0 + xs.length ≤ xs.length)) (Tree.ite (sEq (bytesOf (List.take (msgBytes (dm xs)).length (List.drop 0 (msgBytes (dm xs))))) (bytesOf (List.take xs.length (List.drop 0 xs)))) (Tree.ite (inI64 (dm xs).h.3) (Tree.leaf { v := V.bool (rightM (dm xs)), upd := [none], new := [] }) Tree.fail) (Tree.leaf { v := V.fls, upd := [none], new := [] })) Tree.fail) Tree.fail) (Tree.leaf { v := V.fls, upd := [none], new := [] })) Tree.fail) (Tree.ite (em xs != 0) (Tree.leaf { v := V.bool true, upd := [none], new := [] }) (Tree.leaf { v := V.fls, upd := [none], new := [] }))) Tree.fail))))) Tree.fail) (Tree.ite (allByte xs && decide (xs.length = xs.length) && decide (xs.length ≤ 9223372036854775806)) (Tree.ite (em xs == 0) (Tree.ite (inI64 (dm xs).h.3 && msgZ (dm xs)) (Tree.ite (rightM (dm xs)) (Tree.ite (decide (0 + (msgBytes (dm xs)).length ≤ (msgBytes (dm xs)).length)) (Tree.ite (decide (0 + xs.length ≤ xs.length)) (Tree.ite (sEq (bytesOf (List.take (msgBytes (dm xs)).length (List.drop 0 (msgBytes (dm xs))))) (bytesOf (List.take xs.length (List.drop 0 xs)))) (Tree.ite (inI64 (dm xs).h.3) (Tree.leaf { v := V.bool (rightM (dm xs)), upd := [none], new := [] }) Tree.fail) (Tree.leaf { v := V.fls, upd := [none], new := [] })) Tree.fail) Tree.fail) (Tree.leaf { v := V.fls, upd := [none], new := [] })) Tree.fail) (Tree.ite (em xs != 0) (Tree.leaf { v := V.bool true, upd := [none], new := [] }) (Tree.leaf { v := V.fls, upd := [none], new := [] }))) Tree.fail)) Tree.fail) from by kernel_rfl]
  simp only [denN_ite, denN_leaf, denN_fail, hm1, hm2, hb, hl, decide_true, Bool.and_true, if_true, Msg.eqB_self, beq_self_eq_true]
  have tail : (if (em xs == 0) = true then
      if (inI64 (dm xs).h.fl && msgZ (dm xs)) = true then
        if rightM (dm xs) = true then
          if decide (0 + (msgBytes (dm xs)).length ≤ (msgBytes (dm xs)).length) = true then
            if decide (0 + xs.length ≤ xs.length) = true then
              if sEq (bytesOf (List.take (msgBytes (dm xs)).length (List.drop 0 (msgBytes (dm xs))))) (bytesOf (List.take xs.length (List.drop 0 xs))) = true then
                if inI64 (dm xs).h.fl = true then some (Res.nrm ⟨.bool (rightM (dm xs)), [none], []⟩) else none
              else some (Res.nrm ⟨V.fls, [none], []⟩)
            else none
          else none
        else some (Res.nrm ⟨V.fls, [none], []⟩)
      else none
    else if (em xs != 0) = true then some (Res.nrm ⟨.bool true, [none], []⟩) else some (Res.nrm ⟨V.fls, [none], []⟩)) = some (Res.nrm ⟨.bool true, [none], []⟩) := by
    by_cases he : em xs = 0
    · obtain ⟨a, b, c, d⟩ := hr he
      simp only [he, a, b, c, d, beq_self_eq_true, if_true, Bool.and_self, Nat.zero_add, Nat.le_refl, decide_true, sEq_refl]
    · rw [if_neg (by simpa using he), if_pos (by simpa using he)]
  cases h : rightM m with
  | false => rw [if_neg (by simp)]; exact tail
  | true =>
    obtain ⟨a, b, c, d⟩ := hw h
    have hlen : decide ((msgBytes m).length ≤ 9223372036854775806) = true := by
      have : longZ m.h.ty ≤ 64 := by simp only [longZ]; split <;> (try split) <;> omega
      simp only [decide_eq_true_eq]; omega
    simp only [a, b, c, d, hlen, beq_self_eq_true, if_true, Bool.and_self, Msg.eqB_self, Bool.not_true, bne_self_eq_false, Bool.false_eq_true, if_false]
    exact tail
theorem fb_ok : SpecOK P 5 fbS := by
  refine specOK_fast bkU_ok hm (Λ := loopsOf []) Try.func5 (by kernel_rfl) (LoopsOK.nil (by kernel_rfl)) ?_
  intro args bs r h
  unfold fbS at h
  split at h
  · split at h
    · rename_i v l cap xs _ m hm'
      rw [Msg.of_eq hm']
      rw [den_need, den_need, den_leaf] at h
      obtain ⟨hs, ht, rfl⟩ := h
      have hl : l = xs.length := by simp only [Bool.and_eq_true, decide_eq_true_eq] at ht; exact ht.1.2
      subst hl
      simp only [Bool.and_eq_true] at ht hs
      exact fb_nf dMsg mErr m cap xs hs.1 hs.2 ht.1.1 ht.2 (fun h => written h hs.2) (fun h => (read_cases ht.1.1 h).2)
    · simp [den_fail] at h
  · simp [den_fail] at h
end Go.Proofs.Ythjldfmlclpdbaa
