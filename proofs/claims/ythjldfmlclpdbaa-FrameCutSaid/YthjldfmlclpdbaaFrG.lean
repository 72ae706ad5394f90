/- Layer 6: a byte turned. The conditions stand in the specifications. -/
import Derived.Test.YthjldfmlclpdbaaFrF
set_option linter.unusedSimpArgs false
set_option linter.unusedVariables false
set_option linter.unnecessarySimpa false
set_option linter.unusedSectionVars false
set_option maxRecDepth 100000
set_option linter.unusedSimpArgs false
set_option linter.unusedVariables false
namespace Go.Proofs.Ythjldfmlclpdbaa
open Go.Rx

theorem xor_byte {x y : Int} (h0 : 0 ≤ x) (h1 : x ≤ 255) (h2 : 1 ≤ y) (h3 : y ≤ 255) : 0 ≤ bXor .u8 x (IntKind.u8.wrap y) ∧ bXor .u8 x (IntKind.u8.wrap y) ≤ 255 ∧ bXor .u8 x (IntKind.u8.wrap y) ≠ x := by
  have ey : IntKind.u8.wrap y = y := by rw [IntKind.wrap_u8]; omega
  rw [ey]
  unfold bXor
  have hb : IntKind.u8.bits = 8 := rfl
  show 0 ≤ IntKind.u8.wrap ((BitVec.ofInt 8 x ^^^ BitVec.ofInt 8 y).toNat : Int) ∧ IntKind.u8.wrap ((BitVec.ofInt 8 x ^^^ BitVec.ofInt 8 y).toNat : Int) ≤ 255 ∧ IntKind.u8.wrap ((BitVec.ofInt 8 x ^^^ BitVec.ofInt 8 y).toNat : Int) ≠ x
  have hlt := (BitVec.ofInt 8 x ^^^ BitVec.ofInt 8 y).isLt
  rw [IntKind.wrap_u8]
  refine ⟨by omega, by omega, fun he => ?_⟩
  have e1 : ((BitVec.ofInt 8 x ^^^ BitVec.ofInt 8 y).toNat : Int) = x := by omega
  have e2 : BitVec.ofInt 8 x ^^^ BitVec.ofInt 8 y = BitVec.ofInt 8 x := by
    apply BitVec.eq_of_toNat_eq
    rw [BitVec.toNat_ofInt]
    omega
  have e3 : BitVec.ofInt 8 y = (BitVec.ofNat 8 0) := by
    have := congrArg (BitVec.ofInt 8 x ^^^ ·) e2
    simp only [← BitVec.xor_assoc, BitVec.xor_self, BitVec.zero_xor] at this
    exact this
  have e4 := congrArg BitVec.toNat e3
  rw [BitVec.toNat_ofInt] at e4
  simp at e4
  omega

theorem msgBytes_le {m : Msg} (hr : rightM m = true) (hz : msgZ m = true) : (msgBytes m).length ≤ 64 := by
  obtain ⟨_, _, _, d⟩ := written hr hz
  have : longZ m.h.ty ≤ 64 := by simp only [longZ]; split <;> (try split) <;> omega
  omega
noncomputable abbrev tuU (dm : List Int → Msg) (em : List Int → Int) : List (Nat × Rx.Spec) := [(10, encMS), (11, i11S), (13, trueS), (16, decGS dm em), (18, i18S)]
theorem tuU_ok : GammaOK P (tuU dMsg mErr) := .cons encM_ok (.cons i11_ok (.cons alive_ok (.cons decM_ok (.cons i18_ok (.nil P)))))
def fturnS : Rx.Spec := fun a b => match a, b with
  | [v, .int .i64 at', .int .i64 tu], [] => match Msg.of v with
    | some m => .need (inI64 m.h.fl && msgZ m) (.leaf ⟨.bool true, [], []⟩)
    | none => .fail
  | _, _ => .fail
theorem fturn_nf (dm : List Int → Msg) (em : List Int → Int) (m : Msg) (at' tu : Int) (hm1 : inI64 m.h.fl = true) (hm2 : msgZ m = true)
    (hw : rightM m = true → allByte (msgBytes m) = true ∧ (msgBytes m).length ≤ 64)
    (hr : ∀ xs, allByte xs = true → em xs = 0 → msgBytes (dm xs) = xs) :
    (fFn P (specsOf (tuU dm em)) (loopsOf []) Try.f6 [m.v, .int .i64 at', .int .i64 tu] []).denN = some (Res.nrm ⟨.bool true, [], []⟩) := by
  rw [show (fFn P (specsOf (tuU dm em)) (loopsOf []) Try.f6 [m.v, .int .i64 at', .int .i64 tu] []).denN = Tree.denN (Tree.ite (inI64 m.h.3 && msgZ m) (Tree.ite (rightM m) (Tree.ite (decide (at' < 0)) (Tree.leaf { v := V.bool true, upd := [], new := [] }) (Tree.ite (decide (at' ≥ (↑(msgBytes m).length : Int))) (Tree.leaf { v := V.bool true, upd := [], new := [] }) (Tree.ite (decide (tu < 1)) (Tree.leaf { v := V.bool true, upd := [], new := [] }) (Tree.ite (decide (tu > 255)) (Tree.leaf { v := V.bool true, upd := [], new := [] }) (Tree.ite (decide (0 ≤ at') && decide (at' < (↑(msgBytes m).length : Int))) (Tree.ite (decide (0 + at'.toNat + 1 ≤ (msgBytes m).length)) (Tree.ite (decide (0 ≤ at') && decide (at' < (↑(msgBytes m).length : Int))) (Tree.ite (decide (0 + at'.toNat < (msgBytes m).length)) (Tree.ite (allByte ((msgBytes m).set (0 + at'.toNat) (bXor IntKind.u8 ((msgBytes m).getD (0 + at'.toNat + 0) 0) (IntKind.u8.wrap tu))) && decide ((msgBytes m).length = ((msgBytes m).set (0 + at'.toNat) (bXor IntKind.u8 ((msgBytes m).getD (0 + at'.toNat + 0) 0) (IntKind.u8.wrap tu))).length) && decide (((msgBytes m).set (0 + at'.toNat) (bXor IntKind.u8 ((msgBytes m).getD (0 + at'.toNat + 0) 0) (IntKind.u8.wrap tu))).length ≤ 9223372036854775806)) (Tree.ite (em ((msgBytes m).set (0 + at'.toNat) (bXor IntKind.u8 ((msgBytes m).getD (0 + at'.toNat + 0) 0) (IntKind.u8.wrap tu))) == 0) (Tree.leaf { v := V.bool !(Msg.eqB (dm ((msgBytes m).set (0 + at'.toNat) (bXor IntKind.u8 ((msgBytes m).getD (0 + at'.toNat + 0) 0) (IntKind.u8.wrap tu)))) m), upd := [], new := [] }) (Tree.ite (em ((msgBytes m).set (0 + at'.toNat) (bXor IntKind.u8 ((msgBytes m).getD (0 + at'.toNat + 0) 0) (IntKind.u8.wrap tu))) != 0) (Tree.leaf { v := V.tru, upd := [], new := [] }) (Tree.ite (em ((msgBytes m).set (0 + at'.toNat) (bXor IntKind.u8 ((msgBytes m).getD (0 + at'.toNat + 0) 0) (IntKind.u8.wrap tu))) == 0) (Tree.leaf { v := V.bool !(Msg.eqB Msg.zero m), upd := [], new := [] }) (Tree.leaf { v := V.fls, upd := [], new := [] })))) Tree.fail) Tree.fail) Tree.fail) Tree.fail) Tree.fail))))) (Tree.leaf { v := V.bool true, upd := [], new := [] })) Tree.fail) from by kernel_rfl]
  simp only [denN_ite, denN_leaf, denN_fail, hm1, hm2, decide_true, Bool.and_true, if_true, Msg.eqB_self, beq_self_eq_true]
  cases h : rightM m with
  | false => rfl
  | true =>
    obtain ⟨hbb, hlen⟩ := hw h
    rw [if_pos rfl]
    by_cases g1 : at' < 0
    · rw [if_pos (by simpa using g1)]
    by_cases g2 : at' ≥ ((msgBytes m).length : Int)
    · rw [if_neg (by simpa using g1), if_pos (by simpa using g2)]
    by_cases g3 : tu < 1
    · rw [if_neg (by simpa using g1), if_neg (by simpa using g2), if_pos (by simpa using g3)]
    by_cases g4 : tu > 255
    · rw [if_neg (by simpa using g1), if_neg (by simpa using g2), if_neg (by simpa using g3), if_pos (by simpa using g4)]
    rw [if_neg (by simpa using g1), if_neg (by simpa using g2), if_neg (by simpa using g3), if_neg (by simpa using g4)]
    obtain ⟨j, rfl⟩ := Int.eq_ofNat_of_zero_le (Int.not_lt.1 g1)
    have hj : (0 : Nat) + ((j : Int)).toNat = j := by omega
    obtain ⟨B, hB⟩ : ∃ B, B = msgBytes m := ⟨_, rfl⟩
    rw [← hB] at hbb hlen g2 ⊢
    have hx0 := allByte_getD hbb j
    obtain ⟨v, hv⟩ : ∃ v, v = bXor IntKind.u8 (B.getD j 0) (IntKind.u8.wrap tu) := ⟨_, rfl⟩
    have hvx := xor_byte (x := B.getD j 0) (y := tu) hx0.1 hx0.2 (by omega) (by omega)
    rw [hj, show j + 0 = j from rfl, ← hv]
    rw [← hv] at hvx
    have hY : allByte (B.set j v) = true := by
      unfold allByte at hbb ⊢
      rw [List.all_eq_true] at hbb ⊢
      intro x hx
      rcases List.mem_or_eq_of_mem_set hx with hx | rfl
      · exact hbb x hx
      · rw [byteZ_iff]; exact ⟨hvx.1, hvx.2.1⟩
    have hjl : j < B.length := by omega
    have e1 : (decide (0 ≤ (j : Int)) && decide ((j : Int) < (B.length : Int))) = true := by simp; omega
    have e2 : (allByte (B.set j v) && decide (B.length = (B.set j v).length) && decide ((B.set j v).length ≤ 9223372036854775806)) = true := by rw [hY]; simp; omega
    rw [if_pos e1, if_pos (by simp only [decide_eq_true_eq]; omega), if_pos e1, if_pos (by simp only [decide_eq_true_eq]; omega), if_pos e2]
    by_cases hd : em (B.set j v) = 0
    · rw [if_pos (by simpa using hd)]
      refine resB ?_
      rw [Bool.not_eq_true', Bool.eq_false_iff]
      intro hh
      have k5 := hr _ hY hd
      rw [Msg.eqB_iff.1 hh, ← hB] at k5
      have k6 := congrArg (fun l => l[j]?) k5
      simp only [List.getElem?_set, if_true, hjl] at k6
      apply hvx.2.2
      rw [List.getD_eq_getElem?_getD, k6]
      rfl
    · rw [if_neg (by simpa using hd), if_pos (by simpa using hd)]
      rfl
theorem fturn_ok : SpecOK P 6 fturnS := by
  refine specOK_fast tuU_ok hm (Λ := loopsOf []) Try.func6 (by kernel_rfl) (LoopsOK.nil (by kernel_rfl)) ?_
  intro args bs r h
  unfold fturnS at h
  split at h
  · split at h
    · rename_i v at' tu _ m hm'
      rw [Msg.of_eq hm']
      rw [den_need, den_leaf] at h
      obtain ⟨hs, rfl⟩ := h
      simp only [Bool.and_eq_true] at hs
      exact fturn_nf dMsg mErr m at' tu hs.1 hs.2 (fun h => ⟨(written h hs.2).2.2.1, msgBytes_le h hs.2⟩) (fun xs h1 h2 => (read_cases h1 h2).2.2.1)
    · simp [den_fail] at h
  · simp [den_fail] at h
end Go.Proofs.Ythjldfmlclpdbaa
