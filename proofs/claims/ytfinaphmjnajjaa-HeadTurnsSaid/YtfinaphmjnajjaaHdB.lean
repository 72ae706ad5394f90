/- Layer 5: the laws of heads as functions: each returns true. The conditions stand in the specifications; the rows meet them. -/
import Derived.Test.YtfinaphmjnajjaaHdA
set_option linter.unusedSimpArgs false
set_option linter.unusedVariables false
set_option linter.unnecessarySimpa false
set_option linter.unusedSectionVars false
set_option maxRecDepth 100000
set_option linter.unusedSimpArgs false
set_option linter.unusedVariables false
namespace Go.Proofs.Ytfinaphmjnajjaa
open Go.Rx

theorem sEq_refl (x : ByteArray) : sEq x x = true := by simp [sEq]
theorem res_true {u : List (Option (Option Blk))} {n : List Blk} {v : V} (h : nrm v = .bool true) : some (Res.nrm ⟨v, u, n⟩) = some (Res.nrm ⟨.bool true, u, n⟩) := by
  simp only [Res.nrm, h]; rfl

def writesS : Rx.Spec := fun a b => match a, b with
  | [.agg [.int .i64 ty, .int .i64 dom, .int .i64 fl, .int .i64 co, .int .u8 c0, .int .u8 c1, .int .u8 c2, .int .u8 c3, .int .u8 c4, .int .u8 c5, .int .u8 c6, .int .u8 c7, .int .i64 n, .int .i64 se, .int .i64 lo]], [] =>
    .need (inI64 fl && byteZ c0 && byteZ c1 && byteZ c2 && byteZ c3 && byteZ c4 && byteZ c5 && byteZ c6 && byteZ c7) (.leaf ⟨.bool true, [], []⟩)
  | _, _ => .fail
theorem writes_G : GammaOK P [(10, encS), (11, encS), (12, aliveS), (13, rightS), (14, rightS), (15, longS), (16, longS)] :=
  .cons encode_ok (.cons refEncode_ok (.cons alive_ok (.cons right_ok (.cons refRight_ok (.cons long_ok (.cons refLong_ok (.nil P)))))))
theorem writes_ok : SpecOK P 3 writesS := by
  refine specOK_fast writes_G hm (Λ := loopsOf []) Try.func3 (by kernel_rfl) (LoopsOK.nil (by kernel_rfl)) ?_
  intro args bs r h
  unfold writesS at h
  split at h
  · rename_i ty dom fl co c0 c1 c2 c3 c4 c5 c6 c7 n se lo
    rw [den_need, den_leaf] at h
    obtain ⟨hf, rfl⟩ := h
    have hfl : inI64 fl = true := by simp only [Bool.and_eq_true] at hf; exact hf.1.1.1.1.1.1.1.1
    rw [show (fFn P (specsOf [(10, encS), (11, encS), (12, aliveS), (13, rightS), (14, rightS), (15, longS), (16, longS)]) (loopsOf []) Try.f3 [.agg [.int .i64 ty, .int .i64 dom, .int .i64 fl, .int .i64 co, .int .u8 c0, .int .u8 c1, .int .u8 c2, .int .u8 c3, .int .u8 c4, .int .u8 c5, .int .u8 c6, .int .u8 c7, .int .i64 n, .int .i64 se, .int .i64 lo]] []).denN = Tree.denN (Tree.ite (inI64 fl && byteZ c0 && byteZ c1 && byteZ c2 && byteZ c3 && byteZ c4 && byteZ c5 && byteZ c6 && byteZ c7)
  (Tree.ite (rightB ty dom fl n se lo)
    (Tree.ite (inI64 fl && byteZ c0 && byteZ c1 && byteZ c2 && byteZ c3 && byteZ c4 && byteZ c5 && byteZ c6 && byteZ c7)
      (Tree.ite (rightB ty dom fl n se lo)
        (Tree.ite
          (sEq (bytesOf (List.take 34 (List.drop 0 (headBytes ty dom fl co c0 c1 c2 c3 c4 c5 c6 c7 n se lo))))
            (bytesOf (List.take 34 (List.drop 0 (headBytes ty dom fl co c0 c1 c2 c3 c4 c5 c6 c7 n se lo)))))
          (Tree.ite (inI64 fl)
            (Tree.ite (inI64 fl)
              (Tree.ite (rightB ty dom fl n se lo == rightB ty dom fl n se lo)
                (Tree.leaf { v := V.bool (longZ ty == longZ ty), upd := [], new := [] })
                (Tree.leaf { v := V.fls, upd := [], new := [] }))
              Tree.fail)
            Tree.fail)
          (Tree.leaf { v := V.fls, upd := [], new := [] }))
        (Tree.leaf { v := V.fls, upd := [], new := [] }))
      Tree.fail)
    (Tree.ite (inI64 fl && byteZ c0 && byteZ c1 && byteZ c2 && byteZ c3 && byteZ c4 && byteZ c5 && byteZ c6 && byteZ c7)
      (Tree.ite (rightB ty dom fl n se lo) (Tree.leaf { v := V.fls, upd := [], new := [] })
        (Tree.ite (inI64 fl)
          (Tree.ite (inI64 fl)
            (Tree.ite (rightB ty dom fl n se lo == rightB ty dom fl n se lo)
              (Tree.leaf { v := V.bool (longZ ty == longZ ty), upd := [], new := [] })
              (Tree.leaf { v := V.fls, upd := [], new := [] }))
            Tree.fail)
          Tree.fail))
      Tree.fail))
  Tree.fail) from by kernel_rfl]
    simp only [denN_ite, denN_leaf, denN_fail, hf, if_true]
    simp only [hfl, sEq_refl, beq_self_eq_true, if_true]
    cases rightB ty dom fl n se lo <;> rfl
  · simp [den_fail] at h

def readsS : Rx.Spec := fun a b => match a, b with
  | [.sl 0 0 0 1 l cap], [.ints .u8 xs] => .need (allByte xs && decide (l = xs.length) && decide (xs.length ≤ 9223372036854775806)) (.leaf ⟨.bool true, [none], []⟩)
  | _, _ => .fail
theorem reads_G : GammaOK P [(17, decS), (18, decS), (12, aliveS)] := .cons decode_ok (.cons refDecode_ok (.cons alive_ok (.nil P)))
theorem reads_ok : SpecOK P 4 readsS := by
  refine specOK_fast reads_G hm (Λ := loopsOf []) Try.func4 (by kernel_rfl) (LoopsOK.nil (by kernel_rfl)) ?_
  intro args bs r h
  unfold readsS at h
  split at h
  · rename_i l cap xs
    rw [den_need, den_leaf] at h
    obtain ⟨hf, rfl⟩ := h
    have hl : l = xs.length := by simp only [Bool.and_eq_true, decide_eq_true_eq] at hf; exact hf.1.2
    subst hl
    rw [show (fFn P (specsOf [(17, decS), (18, decS), (12, aliveS)]) (loopsOf []) Try.f4 [.sl 0 0 0 1 xs.length cap] [.ints .u8 xs]).denN = Tree.denN (Tree.ite (allByte xs && decide (xs.length = xs.length) && decide (xs.length ≤ 9223372036854775806))
  (Tree.ite (decErr xs == 0)
    (Tree.ite (allByte xs && decide (xs.length = xs.length) && decide (xs.length ≤ 9223372036854775806))
      (Tree.ite (decErr xs == 0)
        (Tree.ite
          (dTy xs == dTy xs &&
            (xs.getD 4 0 == xs.getD 4 0 &&
              (dFl xs == dFl xs &&
                (dCo xs == dCo xs &&
                  (xs.getD 20 0 == xs.getD 20 0 &&
                        (xs.getD 21 0 == xs.getD 21 0 &&
                          (xs.getD 22 0 == xs.getD 22 0 &&
                            (xs.getD 23 0 == xs.getD 23 0 &&
                              (xs.getD 24 0 == xs.getD 24 0 &&
                                (xs.getD 25 0 == xs.getD 25 0 &&
                                  (xs.getD 26 0 == xs.getD 26 0 && (xs.getD 27 0 == xs.getD 27 0 && true))))))) &&
                      (dNum xs == dNum xs && true) &&
                    (dSe xs == dSe xs && (dLo xs == dLo xs && true)))))))
          (Tree.leaf { v := V.bool true, upd := [none], new := [] })
          (Tree.leaf { v := V.fls, upd := [none], new := [] }))
        (Tree.ite
          (dTy xs == 0 &&
            (xs.getD 4 0 == 0 &&
              (dFl xs == 0 &&
                (dCo xs == 0 &&
                  (xs.getD 20 0 == 0 &&
                        (xs.getD 21 0 == 0 &&
                          (xs.getD 22 0 == 0 &&
                            (xs.getD 23 0 == 0 &&
                              (xs.getD 24 0 == 0 &&
                                (xs.getD 25 0 == 0 && (xs.getD 26 0 == 0 && (xs.getD 27 0 == 0 && true))))))) &&
                      (dNum xs == 0 && true) &&
                    (dSe xs == 0 && (dLo xs == 0 && true)))))))
          (Tree.leaf { v := V.bool (0 == decErr xs), upd := [none], new := [] })
          (Tree.leaf { v := V.fls, upd := [none], new := [] })))
      Tree.fail)
    (Tree.ite (allByte xs && decide (xs.length = xs.length) && decide (xs.length ≤ 9223372036854775806))
      (Tree.ite (decErr xs == 0)
        (Tree.ite
          (0 == dTy xs &&
            (0 == xs.getD 4 0 &&
              (0 == dFl xs &&
                (0 == dCo xs &&
                  (0 == xs.getD 20 0 &&
                        (0 == xs.getD 21 0 &&
                          (0 == xs.getD 22 0 &&
                            (0 == xs.getD 23 0 &&
                              (0 == xs.getD 24 0 &&
                                (0 == xs.getD 25 0 && (0 == xs.getD 26 0 && (0 == xs.getD 27 0 && true))))))) &&
                      (0 == dNum xs && true) &&
                    (0 == dSe xs && (0 == dLo xs && true)))))))
          (Tree.leaf { v := V.bool (decErr xs == 0), upd := [none], new := [] })
          (Tree.leaf { v := V.fls, upd := [none], new := [] }))
        (Tree.leaf { v := V.bool (decErr xs == decErr xs), upd := [none], new := [] }))
      Tree.fail))
  Tree.fail) from by kernel_rfl]
    simp only [Bool.and_eq_true] at hf
    simp only [denN_ite, denN_leaf, denN_fail, hf.1.1, hf.2, decide_true, beq_self_eq_true, Bool.and_true, if_true]
    cases h0 : decErr xs == 0
    · rfl
    · rfl
  · simp [den_fail] at h

theorem behind_asym (a b : Int) (h : behindB a b = true) : behindB b a = false := by
  unfold behindB at *
  simp only [Bool.and_eq_true, decide_eq_true_eq] at h
  rw [Bool.eq_false_iff]
  simp only [Ne, Bool.and_eq_true, decide_eq_true_eq]
  omega
theorem behind_next (a : Int) (h0 : 0 ≤ a) (h1 : a ≤ 65535) : behindB (nextZ a) a = true := by
  unfold behindB nextZ
  simp only [Bool.and_eq_true, decide_eq_true_eq]
  split <;> omega
theorem behind_self (a : Int) : behindB a a = false := by
  unfold behindB
  rw [Bool.eq_false_iff]
  simp only [Ne, Bool.and_eq_true, decide_eq_true_eq]
  omega
def numsS : Rx.Spec := fun a b => match a, b with
  | [.int .i64 a, .int .i64 b], [] => .leaf ⟨.bool true, [], []⟩
  | _, _ => .fail
theorem nums_G : GammaOK P [(19, nextS), (20, nextS), (21, behindS), (22, behindS), (12, aliveS)] := .cons next_ok (.cons refNext_ok (.cons behind_ok (.cons refBehind_ok (.cons alive_ok (.nil P)))))
theorem nums_ok : SpecOK P 6 numsS := by
  refine specOK_fast nums_G hm (Λ := loopsOf []) Try.func6 (by kernel_rfl) (LoopsOK.nil (by kernel_rfl)) ?_
  intro args bs r h
  unfold numsS at h
  split at h
  · rename_i a b
    rw [den_leaf] at h; subst h
    rw [show (fFn P (specsOf [(19, nextS), (20, nextS), (21, behindS), (22, behindS), (12, aliveS)]) (loopsOf []) Try.f6 [.int .i64 a, .int .i64 b] []).denN = Tree.denN (Tree.ite (nextZ a != nextZ a) (Tree.leaf { v := V.fls, upd := [], new := [] })
  (Tree.ite (!behindB a b == behindB a b) (Tree.leaf { v := V.fls, upd := [], new := [] })
    (Tree.ite (behindB a b)
      (Tree.ite (behindB b a) (Tree.leaf { v := V.fls, upd := [], new := [] })
        (Tree.ite (decide (a < 0)) (Tree.leaf { v := V.bool !behindB a a, upd := [], new := [] })
          (Tree.ite (decide (a > 65535)) (Tree.leaf { v := V.bool !behindB a a, upd := [], new := [] })
            (Tree.ite (behindB (nextZ a) a) (Tree.leaf { v := V.bool !behindB a a, upd := [], new := [] })
              (Tree.leaf { v := V.fls, upd := [], new := [] })))))
      (Tree.ite (decide (a < 0)) (Tree.leaf { v := V.bool !behindB a a, upd := [], new := [] })
        (Tree.ite (decide (a > 65535)) (Tree.leaf { v := V.bool !behindB a a, upd := [], new := [] })
          (Tree.ite (behindB (nextZ a) a) (Tree.leaf { v := V.bool !behindB a a, upd := [], new := [] })
            (Tree.leaf { v := V.fls, upd := [], new := [] }))))))) from by kernel_rfl]
    simp only [denN_ite, denN_leaf, denN_fail, behind_self, bne_self_eq_false, Bool.false_eq_true, if_false, decide_eq_true_eq]
    have e1 : (!behindB a b == behindB a b) = false := by cases behindB a b <;> rfl
    rw [e1]
    have e2 : ∀ h0 : ¬ a < 0, ∀ h1 : ¬ a > 65535, behindB (nextZ a) a = true := fun h0 h1 => behind_next a (by omega) (by omega)
    cases h3 : behindB a b with
    | true =>
      rw [behind_asym a b h3]
      split
      · cases ‹false = true›
      · simp only [if_true]
        by_cases h0 : a < 0
        · simp only [h0, if_true]; rfl
        · by_cases h1 : a > 65535
          · simp only [h0, h1, if_true, if_false]; rfl
          · simp only [h0, h1, e2 h0 h1, if_true, if_false]; rfl
    | false =>
      by_cases h0 : a < 0
      · simp only [h0, if_true]; rfl
      · by_cases h1 : a > 65535
        · simp only [h0, h1, if_true, if_false]; rfl
        · simp only [h0, h1, e2 h0 h1, if_true, if_false]; rfl
  · simp [den_fail] at h
end Go.Proofs.Ytfinaphmjnajjaa

set_option maxRecDepth 100000
set_option linter.unusedSimpArgs false
set_option linter.unusedVariables false
namespace Go.Proofs.Ytfinaphmjnajjaa
open Go.Rx

theorem sum8 (co : Int) : sumF 0 [byteAt co 7, byteAt co 6, byteAt co 5, byteAt co 4, byteAt co 3, byteAt co 2, byteAt co 1, byteAt co 0] = co % 18446744073709551616 := by
  simp only [sumF, List.foldl_cons, List.foldl_nil, byteAt]
  have s (x : Int) (p : Int) (hp : 0 < p) : x % (p * 256) = (x / p % 256) * p + x % p := by
    have h1 := Int.mul_ediv_add_emod x p
    have h2 := Int.mul_ediv_add_emod (x / p) 256
    have h3 : x = (p * 256) * (x / p / 256) + ((x / p % 256) * p + x % p) := by
      have : p * (x / p) = p * (256 * (x / p / 256) + x / p % 256) := by rw [h2]
      rw [Int.mul_add, ← Int.mul_assoc, Int.mul_comm p (x / p % 256)] at this
      omega
    have h4 := Int.emod_nonneg x (Int.ne_of_gt hp)
    have h5 := Int.emod_lt_of_pos x hp
    have h6 : 0 ≤ x / p % 256 := Int.emod_nonneg _ (by omega)
    have h7 : x / p % 256 < 256 := Int.emod_lt_of_pos _ (by omega)
    have h8 : (x / p % 256) * p ≤ 255 * p := Int.mul_le_mul_of_nonneg_right (by omega) (by omega)
    have h9 : 0 ≤ (x / p % 256) * p := Int.mul_nonneg h6 (by omega)
    have e : ((p * 256) * (x / p / 256) + ((x / p % 256) * p + x % p)) % (p * 256) = ((x / p % 256) * p + x % p) % (p * 256) := by
      rw [Int.add_comm, Int.add_mul_emod_self_left]
    rw [h3.symm] at e
    rw [e]
    exact Int.emod_eq_of_lt (by omega) (by omega)
  have s0 := s co 1 (by omega)
  have s1 := s co 256 (by omega)
  have s2 := s co 65536 (by omega)
  have s3 := s co 16777216 (by omega)
  have s4 := s co 4294967296 (by omega)
  have s5 := s co 1099511627776 (by omega)
  have s6 := s co 281474976710656 (by omega)
  have s7 := s co 72057594037927936 (by omega)
  simp only [Int.reduceMul, Int.reducePow, Nat.reduceMul] at s0 s1 s2 s3 s4 s5 s6 s7 ⊢
  omega

def bz (c : Int) : Prop := 0 ≤ c ∧ c ≤ 255
theorem byteZ_iff {c : Int} : byteZ c = true ↔ 0 ≤ c ∧ c ≤ 255 := by simp [byteZ]
theorem inI64_iff {c : Int} : inI64 c = true ↔ -9223372036854775808 ≤ c ∧ c ≤ 9223372036854775807 := by simp [inI64]

section
variable {ty dom fl co c0 c1 c2 c3 c4 c5 c6 c7 n se lo : Int}
theorem head_long (t : List Int) : (headBytes ty dom fl co c0 c1 c2 c3 c4 c5 c6 c7 n se lo ++ t).length = 34 + t.length := by
  rw [List.length_append]; rfl
theorem longZ_of (h : ty = 0 ∨ ty = 1 ∨ ty = 8 ∨ ty = 9 ∨ ty = 11) : (longZ ty = 44 ∨ longZ ty = 54 ∨ longZ ty = 64) ∧ byteAt ty 0 = ty ∧ byteAt ty 0 % 16 = ty ∧ byteAt ty 0 / 16 = 0 := by
  rcases h with rfl | rfl | rfl | rfl | rfl <;> simp [longZ, byteAt]
/-- A head is told of its bytes. -/
theorem head_told (hr : rightB ty dom fl n se lo = true) (hc : inI64 co = true) (t : List Int) :
    dTy (headBytes ty dom fl co c0 c1 c2 c3 c4 c5 c6 c7 n se lo ++ t) = ty ∧ (headBytes ty dom fl co c0 c1 c2 c3 c4 c5 c6 c7 n se lo ++ t).getD 4 0 = dom ∧ dFl (headBytes ty dom fl co c0 c1 c2 c3 c4 c5 c6 c7 n se lo ++ t) = fl ∧
    dCo (headBytes ty dom fl co c0 c1 c2 c3 c4 c5 c6 c7 n se lo ++ t) = co ∧ dNum (headBytes ty dom fl co c0 c1 c2 c3 c4 c5 c6 c7 n se lo ++ t) = n ∧ dSe (headBytes ty dom fl co c0 c1 c2 c3 c4 c5 c6 c7 n se lo ++ t) = se ∧
    dLo (headBytes ty dom fl co c0 c1 c2 c3 c4 c5 c6 c7 n se lo ++ t) = lo := by
  obtain ⟨hty, h1, h2, h3, h4, h5, h6, h7, h8, h9, h10, h11⟩ := right_facts hr
  obtain ⟨_, e1, e2, e3⟩ := longZ_of hty
  refine ⟨e2, ?_, ?_, ?_, ?_, ?_, ?_⟩
  · show byteAt dom 0 = dom
    simp only [byteAt]; omega
  · show byteAt fl 1 * 256 + byteAt fl 0 = fl
    simp only [byteAt]; omega
  · show IntKind.i64.wrap (sumF 0 [byteAt co 7, byteAt co 6, byteAt co 5, byteAt co 4, byteAt co 3, byteAt co 2, byteAt co 1, byteAt co 0]) = co
    rw [sum8, wrap64_emod]
    rw [inI64_iff] at hc
    exact wrap64_id hc.1 hc.2
  · show n / 256 * 256 + n % 256 = n
    omega
  · show byteAt se 1 * 256 + byteAt se 0 = se
    simp only [byteAt]; omega
  · show (if byteAt lo 0 > 127 then byteAt lo 0 - 256 else byteAt lo 0) = lo
    have e : byteAt lo 0 = lo % 256 := by simp [byteAt]
    rw [e]
    by_cases h : lo % 256 > 127
    · rw [if_pos h]; omega
    · rw [if_neg h]; omega

/-- What is amiss with a head's bytes is its length alone. -/
theorem head_err (hr : rightB ty dom fl n se lo = true) (hc : inI64 co = true) (t : List Int) :
    decErr (headBytes ty dom fl co c0 c1 c2 c3 c4 c5 c6 c7 n se lo ++ t) = if (34 + t.length : Int) = longZ ty then 0 else 53 := by
  obtain ⟨e1, e2, e3, e4, e5, e6, e7⟩ := head_told (c0 := c0) (c1 := c1) (c2 := c2) (c3 := c3) (c4 := c4) (c5 := c5) (c6 := c6) (c7 := c7) hr hc t
  obtain ⟨hty, h1, h2, h3, h4, h5, h6, h7, h8, h9, h10, h11⟩ := right_facts hr
  obtain ⟨f0, f1, f2, f3⟩ := longZ_of hty
  unfold decErr
  have hl := head_long (ty := ty) (dom := dom) (fl := fl) (co := co) (c0 := c0) (c1 := c1) (c2 := c2) (c3 := c3) (c4 := c4) (c5 := c5) (c6 := c6) (c7 := c7) (n := n) (se := se) (lo := lo) t
  rw [e1, e3, e5, hl]
  have hsz : dSz (headBytes ty dom fl co c0 c1 c2 c3 c4 c5 c6 c7 n se lo ++ t) = longZ ty := by
    show byteAt (longZ ty) 1 * 256 + byteAt (longZ ty) 0 = longZ ty
    have := longZ_range ty
    simp only [byteAt]; omega
  have hres : resB8 (headBytes ty dom fl co c0 c1 c2 c3 c4 c5 c6 c7 n se lo ++ t) = false := by
    show (byteAt ty 0 / 16 != 0 || (0 : Int) != 0 || ((0 : Int) != 0 || (0 : Int) != 0 || (0 : Int) != 0 || (0 : Int) != 0) || (0 : Int) != 0) = false
    rw [f3]; rfl
  rw [hsz, hres]
  have hso : sourcedB n = true := by simp [sourcedB]; omega
  have hv : (headBytes ty dom fl co c0 c1 c2 c3 c4 c5 c6 c7 n se lo ++ t).getD 1 0 = 2 := rfl
  rw [if_neg (by omega), hv, if_neg (by omega), if_neg (by omega), h11, hso]
  by_cases hle : (34 + t.length : Int) = longZ ty
  · rw [if_neg (by simp; omega), if_pos hle]; rfl
  · rw [if_pos (by simp; omega), if_neg hle]

theorem head_bytes (hr : rightB ty dom fl n se lo = true) (hb : bz c0 ∧ bz c1 ∧ bz c2 ∧ bz c3 ∧ bz c4 ∧ bz c5 ∧ bz c6 ∧ bz c7) (k : Nat) :
    allByte (headBytes ty dom fl co c0 c1 c2 c3 c4 c5 c6 c7 n se lo ++ List.replicate k 0) = true := by
  obtain ⟨hty, h1, h2, h3, h4, h5, h6, h7, h8, h9, h10, h11⟩ := right_facts hr
  unfold bz at hb
  have hb' := byteAt_range
  have hq (x : Int) (j : Nat) : byteZ (byteAt x j) = true := by have := hb' x j; rw [byteZ_iff]; omega
  have hrep : (List.replicate k (0 : Int)).all byteZ = true := by simp [byteZ]
  unfold allByte
  rw [List.all_append, hrep, Bool.and_true]
  have hn1 : byteZ (n / 256) = true := by rw [byteZ_iff]; omega
  have hn2 : byteZ (n % 256) = true := by rw [byteZ_iff]; omega
  have q0 : byteZ c0 = true := byteZ_iff.2 hb.1
  have q1 : byteZ c1 = true := byteZ_iff.2 hb.2.1
  have q2 : byteZ c2 = true := byteZ_iff.2 hb.2.2.1
  have q3 : byteZ c3 = true := byteZ_iff.2 hb.2.2.2.1
  have q4 : byteZ c4 = true := byteZ_iff.2 hb.2.2.2.2.1
  have q5 : byteZ c5 = true := byteZ_iff.2 hb.2.2.2.2.2.1
  have q6 : byteZ c6 = true := byteZ_iff.2 hb.2.2.2.2.2.2.1
  have q7 : byteZ c7 = true := byteZ_iff.2 hb.2.2.2.2.2.2.2
  have z0 : byteZ 0 = true := rfl
  have z2 : byteZ 2 = true := rfl
  simp only [headBytes, List.all_cons, List.all_nil, hq, hn1, hn2, q0, q1, q2, q3, q4, q5, q6, q7, z0, z2, Bool.and_true]
end

theorem take_getD : ∀ (xs : List Int) (k : Nat), k ≤ xs.length → xs.take k = (List.range k).map fun i => xs.getD i 0
  | xs, 0, _ => by simp
  | [], k + 1, h => by simp at h
  | x :: xs, k + 1, h => by
    rw [List.take_succ_cons, take_getD xs k (by simpa using h), List.range_succ_eq_map]
    simp [Function.comp_def]

/-- What was read is right, and written as it was. -/
theorem told_right {xs : List Int} (hb : allByte xs = true) (h : decErr xs = 0) :
    34 ≤ xs.length ∧ rightB (dTy xs) (xs.getD 4 0) (dFl xs) (dNum xs) (dSe xs) (dLo xs) = true ∧ inI64 (dCo xs) = true ∧ (xs.length : Int) = longZ (dTy xs) ∧
    headBytes (dTy xs) (xs.getD 4 0) (dFl xs) (dCo xs) (xs.getD 20 0) (xs.getD 21 0) (xs.getD 22 0) (xs.getD 23 0) (xs.getD 24 0) (xs.getD 25 0) (xs.getD 26 0) (xs.getD 27 0) (dNum xs) (dSe xs) (dLo xs) = xs.take 34 := by
  have g := allByte_getD hb
  unfold decErr at h
  by_cases c0 : xs.length < 34
  · rw [if_pos c0] at h; cases h
  rw [if_neg c0] at h
  by_cases c1 : xs.getD 1 0 ≠ 2
  · rw [if_pos c1] at h; cases h
  rw [if_neg c1] at h
  by_cases c2 : longZ (dTy xs) = 0
  · rw [if_pos c2] at h; cases h
  rw [if_neg c2] at h
  by_cases c3 : dSz xs ≠ longZ (dTy xs) ∨ (xs.length : Int) ≠ longZ (dTy xs)
  · rw [if_pos c3] at h; cases h
  rw [if_neg c3] at h
  by_cases c4 : resB8 xs = true
  · rw [if_pos c4] at h; cases h
  rw [if_neg c4] at h
  by_cases c5 : ¬ flagsB (dTy xs) (dFl xs) = true
  · rw [if_pos c5] at h; cases h
  rw [if_neg c5] at h
  by_cases c6 : ¬ sourcedB (dNum xs) = true
  · rw [if_pos c6] at h; cases h
  clear h
  have c1 : xs.getD 1 0 = 2 := by omega
  have c3a : dSz xs = longZ (dTy xs) := by omega
  have c3b : (xs.length : Int) = longZ (dTy xs) := by omega
  have c5 : flagsB (dTy xs) (dFl xs) = true := by simpa using c5
  have c6 : sourcedB (dNum xs) = true := by simpa using c6
  have hlz := longZ_range (dTy xs)
  simp only [resB8, Bool.or_eq_true, bne_iff_ne, not_or, Classical.not_not] at c4
  obtain ⟨⟨⟨r0, r5⟩, ⟨⟨⟨r16, r17⟩, r18⟩, r19⟩⟩, r32⟩ := c4
  have g0 := g 0
  have g2 := g 2
  have g3 := g 3
  have g4 := g 4
  have g30 := g 30
  have g31 := g 31
  have g33 := g 33
  refine ⟨by omega, ?_, ?_, c3b, ?_⟩
  · unfold rightB
    simp only [c5, c6, Bool.and_eq_true, decide_eq_true_eq]
    unfold dSe dLo
    refine ⟨⟨⟨⟨⟨⟨⟨⟨by omega, by omega⟩, by omega⟩, trivial⟩, trivial⟩, by omega⟩, by omega⟩, ?_⟩, ?_⟩
    · split <;> omega
    · split <;> omega
  · rw [inI64_iff]
    unfold dCo
    rw [IntKind.wrap_i64]; omega
  · rw [take_getD xs 34 (by omega)]
    have e0 : byteAt (dTy xs) 0 = xs.getD 0 0 := by simp only [byteAt, dTy]; omega
    have e2 : byteAt (longZ (dTy xs)) 1 = xs.getD 2 0 := by rw [← c3a]; simp only [byteAt, dSz]; omega
    have e3 : byteAt (longZ (dTy xs)) 0 = xs.getD 3 0 := by rw [← c3a]; simp only [byteAt, dSz]; omega
    have e4 : byteAt (xs.getD 4 0) 0 = xs.getD 4 0 := by simp only [byteAt]; omega
    have g6 := g 6
    have g7 := g 7
    have e6 : byteAt (dFl xs) 1 = xs.getD 6 0 := by simp only [byteAt, dFl]; omega
    have e7 : byteAt (dFl xs) 0 = xs.getD 7 0 := by simp only [byteAt, dFl]; omega
    have g28 := g 28
    have g29 := g 29
    have e28 : dNum xs / 256 = xs.getD 28 0 := by simp only [dNum]; omega
    have e29 : dNum xs % 256 = xs.getD 29 0 := by simp only [dNum]; omega
    have e30 : byteAt (dSe xs) 1 = xs.getD 30 0 := by simp only [byteAt, dSe]; omega
    have e31 : byteAt (dSe xs) 0 = xs.getD 31 0 := by simp only [byteAt, dSe]; omega
    have e33 : byteAt (dLo xs) 0 = xs.getD 33 0 := by simp only [byteAt, dLo]; split <;> omega
    have hco : ∀ k, k ≤ 7 → byteAt (dCo xs) k = xs.getD (15 - k) 0 := by
      have g8 := g 8
      have g9 := g 9
      have g10 := g 10
      have g11 := g 11
      have g12 := g 12
      have g13 := g 13
      have g14 := g 14
      have g15 := g 15
      have hs : dCo xs = xs.getD 15 0 + 256 * (xs.getD 14 0 + 256 * (xs.getD 13 0 + 256 * (xs.getD 12 0 + 256 * (xs.getD 11 0 + 256 * (xs.getD 10 0 + 256 * (xs.getD 9 0 + 256 * xs.getD 8 0)))))) ∨
          dCo xs = xs.getD 15 0 + 256 * (xs.getD 14 0 + 256 * (xs.getD 13 0 + 256 * (xs.getD 12 0 + 256 * (xs.getD 11 0 + 256 * (xs.getD 10 0 + 256 * (xs.getD 9 0 + 256 * xs.getD 8 0)))))) - 18446744073709551616 := by
        unfold dCo
        rw [IntKind.wrap_i64]
        simp only [sumF, List.foldl_cons, List.foldl_nil]
        omega
      intro k hk
      have hk' : k = 0 ∨ k = 1 ∨ k = 2 ∨ k = 3 ∨ k = 4 ∨ k = 5 ∨ k = 6 ∨ k = 7 := by omega
      generalize dCo xs = D at hs
      rcases hk' with rfl | rfl | rfl | rfl | rfl | rfl | rfl | rfl <;> simp only [byteAt, Nat.reduceSub, Nat.reduceMul, Int.reducePow] <;> omega
    have q0 := hco 0 (by omega)
    have q1 := hco 1 (by omega)
    have q2 := hco 2 (by omega)
    have q3 := hco 3 (by omega)
    have q4 := hco 4 (by omega)
    have q5 := hco 5 (by omega)
    have q6 := hco 6 (by omega)
    have q7 := hco 7 (by omega)
    unfold headBytes
    rw [e0, e2, e3, e4, e6, e7, e28, e29, e30, e31, e33, q0, q1, q2, q3, q4, q5, q6, q7]
    show _ = [xs.getD 0 0, xs.getD 1 0, xs.getD 2 0, xs.getD 3 0, xs.getD 4 0, xs.getD 5 0, xs.getD 6 0, xs.getD 7 0, xs.getD 8 0, xs.getD 9 0, xs.getD 10 0, xs.getD 11 0, xs.getD 12 0, xs.getD 13 0, xs.getD 14 0, xs.getD 15 0,
      xs.getD 16 0, xs.getD 17 0, xs.getD 18 0, xs.getD 19 0, xs.getD 20 0, xs.getD 21 0, xs.getD 22 0, xs.getD 23 0, xs.getD 24 0, xs.getD 25 0, xs.getD 26 0, xs.getD 27 0, xs.getD 28 0, xs.getD 29 0, xs.getD 30 0, xs.getD 31 0, xs.getD 32 0, xs.getD 33 0]
    rw [c1, r5, r16, r17, r18, r19, r32]
end Go.Proofs.Ytfinaphmjnajjaa

set_option maxRecDepth 100000
set_option linter.unusedSimpArgs false
set_option linter.unusedVariables false
namespace Go.Proofs.Ytfinaphmjnajjaa
open Go.Rx

theorem wrap_long (ty : Int) : IntKind.i64.wrap (longZ ty - 34) = longZ ty - 34 := by
  have := longZ_range ty
  exact wrap64_id (by omega) (by omega)

def backS : Rx.Spec := fun a b => match a, b with
  | [.agg [.int .i64 ty, .int .i64 dom, .int .i64 fl, .int .i64 co, .int .u8 c0, .int .u8 c1, .int .u8 c2, .int .u8 c3, .int .u8 c4, .int .u8 c5, .int .u8 c6, .int .u8 c7, .int .i64 n, .int .i64 se, .int .i64 lo], .sl 0 0 0 1 l cap], [.ints .u8 xs] =>
    .need (inI64 fl && byteZ c0 && byteZ c1 && byteZ c2 && byteZ c3 && byteZ c4 && byteZ c5 && byteZ c6 && byteZ c7) (.need (inI64 co && allByte xs && decide (l = xs.length) && decide (xs.length ≤ 9223372036854775806)) (.leaf ⟨.bool true, [none], []⟩))
  | _, _ => .fail
theorem back_G : GammaOK P [(10, encS), (17, decS), (12, aliveS), (16, longS)] := .cons encode_ok (.cons decode_ok (.cons alive_ok (.cons refLong_ok (.nil P))))
theorem back_ok : SpecOK P 5 backS := by
  refine specOK_fast back_G hm (Λ := loopsOf []) Try.func5 (by kernel_rfl) (LoopsOK.nil (by kernel_rfl)) ?_
  intro args bs r h
  unfold backS at h
  split at h
  · rename_i ty dom fl co c0 c1 c2 c3 c4 c5 c6 c7 n se lo l cap xs
    rw [den_need, den_need, den_leaf] at h
    obtain ⟨hf, hg, rfl⟩ := h
    have hl : l = xs.length := by simp only [Bool.and_eq_true, decide_eq_true_eq] at hg; exact hg.1.2
    subst hl
    rw [show (fFn P (specsOf [(10, encS), (17, decS), (12, aliveS), (16, longS)]) (loopsOf []) Try.f5 [.agg [.int .i64 ty, .int .i64 dom, .int .i64 fl, .int .i64 co, .int .u8 c0, .int .u8 c1, .int .u8 c2, .int .u8 c3, .int .u8 c4, .int .u8 c5, .int .u8 c6, .int .u8 c7, .int .i64 n, .int .i64 se, .int .i64 lo], .sl 0 0 0 1 xs.length cap] [.ints .u8 xs]).denN = Tree.denN (Tree.ite (inI64 fl && byteZ c0 && byteZ c1 && byteZ c2 && byteZ c3 && byteZ c4 && byteZ c5 && byteZ c6 && byteZ c7)
  (Tree.ite (rightB ty dom fl n se lo)
    (Tree.ite
      (true && decide (0 ≤ IntKind.i64.wrap (longZ ty - 34)) &&
        decide (IntKind.i64.wrap (longZ ty - 34) ≤ 140737488355328))
      (Tree.ite
        (decide
          ((List.take 34 (List.drop 0 (headBytes ty dom fl co c0 c1 c2 c3 c4 c5 c6 c7 n se lo)) ++
                  List.replicate (IntKind.i64.wrap (longZ ty - 34)).toNat 0).length *
              1 ≤
            140737488355328))
        (Tree.ite
          (allByte
                (List.take 34 (List.drop 0 (headBytes ty dom fl co c0 c1 c2 c3 c4 c5 c6 c7 n se lo)) ++
                  List.replicate (IntKind.i64.wrap (longZ ty - 34)).toNat 0) &&
              decide
                ((List.take 34 (List.drop 0 (headBytes ty dom fl co c0 c1 c2 c3 c4 c5 c6 c7 n se lo)) ++
                      List.replicate (IntKind.i64.wrap (longZ ty - 34)).toNat 0).length =
                  (List.take 34 (List.drop 0 (headBytes ty dom fl co c0 c1 c2 c3 c4 c5 c6 c7 n se lo)) ++
                      List.replicate (IntKind.i64.wrap (longZ ty - 34)).toNat 0).length) &&
            decide
              ((List.take 34 (List.drop 0 (headBytes ty dom fl co c0 c1 c2 c3 c4 c5 c6 c7 n se lo)) ++
                    List.replicate (IntKind.i64.wrap (longZ ty - 34)).toNat 0).length ≤
                9223372036854775806))
          (Tree.ite
            (decErr
                (List.take 34 (List.drop 0 (headBytes ty dom fl co c0 c1 c2 c3 c4 c5 c6 c7 n se lo)) ++
                  List.replicate (IntKind.i64.wrap (longZ ty - 34)).toNat 0) ==
              0)
            (Tree.ite
              (!(dTy
                      (List.take 34 (List.drop 0 (headBytes ty dom fl co c0 c1 c2 c3 c4 c5 c6 c7 n se lo)) ++
                        List.replicate (IntKind.i64.wrap (longZ ty - 34)).toNat 0) ==
                    ty &&
                  ((List.take 34 (List.drop 0 (headBytes ty dom fl co c0 c1 c2 c3 c4 c5 c6 c7 n se lo)) ++
                            List.replicate (IntKind.i64.wrap (longZ ty - 34)).toNat 0).getD
                        4 0 ==
                      dom &&
                    (dFl
                          (List.take 34 (List.drop 0 (headBytes ty dom fl co c0 c1 c2 c3 c4 c5 c6 c7 n se lo)) ++
                            List.replicate (IntKind.i64.wrap (longZ ty - 34)).toNat 0) ==
                        fl &&
                      (dCo
                            (List.take 34 (List.drop 0 (headBytes ty dom fl co c0 c1 c2 c3 c4 c5 c6 c7 n se lo)) ++
                              List.replicate (IntKind.i64.wrap (longZ ty - 34)).toNat 0) ==
                          co &&
                        ((List.take 34 (List.drop 0 (headBytes ty dom fl co c0 c1 c2 c3 c4 c5 c6 c7 n se lo)) ++
                                      List.replicate (IntKind.i64.wrap (longZ ty - 34)).toNat 0).getD
                                  20 0 ==
                                c0 &&
                              ((List.take 34 (List.drop 0 (headBytes ty dom fl co c0 c1 c2 c3 c4 c5 c6 c7 n se lo)) ++
                                        List.replicate (IntKind.i64.wrap (longZ ty - 34)).toNat 0).getD
                                    21 0 ==
                                  c1 &&
                                ((List.take 34 (List.drop 0 (headBytes ty dom fl co c0 c1 c2 c3 c4 c5 c6 c7 n se lo)) ++
                                          List.replicate (IntKind.i64.wrap (longZ ty - 34)).toNat 0).getD
                                      22 0 ==
                                    c2 &&
                                  ((List.take 34
                                              (List.drop 0 (headBytes ty dom fl co c0 c1 c2 c3 c4 c5 c6 c7 n se lo)) ++
                                            List.replicate (IntKind.i64.wrap (longZ ty - 34)).toNat 0).getD
                                        23 0 ==
                                      c3 &&
                                    ((List.take 34
                                                (List.drop 0
                                                  (headBytes ty dom fl co c0 c1 c2 c3 c4 c5 c6 c7 n se lo)) ++
                                              List.replicate (IntKind.i64.wrap (longZ ty - 34)).toNat 0).getD
                                          24 0 ==
                                        c4 &&
                                      ((List.take 34
                                                  (List.drop 0
                                                    (headBytes ty dom fl co c0 c1 c2 c3 c4 c5 c6 c7 n se lo)) ++
                                                List.replicate (IntKind.i64.wrap (longZ ty - 34)).toNat 0).getD
                                            25 0 ==
                                          c5 &&
                                        ((List.take 34
                                                    (List.drop 0
                                                      (headBytes ty dom fl co c0 c1 c2 c3 c4 c5 c6 c7 n se lo)) ++
                                                  List.replicate (IntKind.i64.wrap (longZ ty - 34)).toNat 0).getD
                                              26 0 ==
                                            c6 &&
                                          ((List.take 34
                                                      (List.drop 0
                                                        (headBytes ty dom fl co c0 c1 c2 c3 c4 c5 c6 c7 n se lo)) ++
                                                    List.replicate (IntKind.i64.wrap (longZ ty - 34)).toNat 0).getD
                                                27 0 ==
                                              c7 &&
                                            true))))))) &&
                            (dNum
                                  (List.take 34
                                      (List.drop 0 (headBytes ty dom fl co c0 c1 c2 c3 c4 c5 c6 c7 n se lo)) ++
                                    List.replicate (IntKind.i64.wrap (longZ ty - 34)).toNat 0) ==
                                n &&
                              true) &&
                          (dSe
                                (List.take 34 (List.drop 0 (headBytes ty dom fl co c0 c1 c2 c3 c4 c5 c6 c7 n se lo)) ++
                                  List.replicate (IntKind.i64.wrap (longZ ty - 34)).toNat 0) ==
                              se &&
                            (dLo
                                  (List.take 34
                                      (List.drop 0 (headBytes ty dom fl co c0 c1 c2 c3 c4 c5 c6 c7 n se lo)) ++
                                    List.replicate (IntKind.i64.wrap (longZ ty - 34)).toNat 0) ==
                                lo &&
                              true))))))))
              (Tree.leaf { v := V.fls, upd := [none], new := [] })
              (Tree.ite (allByte xs && decide (xs.length = xs.length) && decide (xs.length ≤ 9223372036854775806))
                (Tree.ite (decErr xs == 0)
                  (Tree.ite
                    (inI64 (dFl xs) && byteZ (xs.getD 20 0) && byteZ (xs.getD 21 0) && byteZ (xs.getD 22 0) &&
                              byteZ (xs.getD 23 0) &&
                            byteZ (xs.getD 24 0) &&
                          byteZ (xs.getD 25 0) &&
                        byteZ (xs.getD 26 0) &&
                      byteZ (xs.getD 27 0))
                    (Tree.ite (rightB (dTy xs) (xs.getD 4 0) (dFl xs) (dNum xs) (dSe xs) (dLo xs))
                      (Tree.ite (true && decide (34 ≤ (↑xs.length : Int)))
                        (Tree.ite (decide (34 ≤ xs.length))
                          (Tree.leaf
                            {
                              v :=
                                V.bool
                                  (sEq
                                    (bytesOf
                                      (List.take 34
                                        (List.drop 0
                                          (headBytes (dTy xs) (xs.getD 4 0) (dFl xs) (dCo xs) (xs.getD 20 0)
                                            (xs.getD 21 0) (xs.getD 22 0) (xs.getD 23 0) (xs.getD 24 0) (xs.getD 25 0)
                                            (xs.getD 26 0) (xs.getD 27 0) (dNum xs) (dSe xs) (dLo xs)))))
                                    (bytesOf (List.take 34 (List.drop 0 xs)))),
                              upd := [none], new := [] })
                          Tree.fail)
                        Tree.fail)
                      (Tree.leaf { v := V.fls, upd := [none], new := [] }))
                    Tree.fail)
                  (Tree.ite (decErr xs != 0) (Tree.leaf { v := V.bool true, upd := [none], new := [] })
                    (Tree.leaf { v := V.fls, upd := [none], new := [] })))
                Tree.fail))
            (Tree.ite
              (decErr
                  (List.take 34 (List.drop 0 (headBytes ty dom fl co c0 c1 c2 c3 c4 c5 c6 c7 n se lo)) ++
                    List.replicate (IntKind.i64.wrap (longZ ty - 34)).toNat 0) !=
                0)
              (Tree.leaf { v := V.fls, upd := [none], new := [] })
              (Tree.ite
                (!(0 == ty &&
                    (0 == dom &&
                      (0 == fl &&
                        (0 == co &&
                          (0 == c0 &&
                                (0 == c1 &&
                                  (0 == c2 && (0 == c3 && (0 == c4 && (0 == c5 && (0 == c6 && (0 == c7 && true))))))) &&
                              (0 == n && true) &&
                            (0 == se && (0 == lo && true))))))))
                (Tree.leaf { v := V.fls, upd := [none], new := [] })
                (Tree.ite (allByte xs && decide (xs.length = xs.length) && decide (xs.length ≤ 9223372036854775806))
                  (Tree.ite (decErr xs == 0)
                    (Tree.ite
                      (inI64 (dFl xs) && byteZ (xs.getD 20 0) && byteZ (xs.getD 21 0) && byteZ (xs.getD 22 0) &&
                                byteZ (xs.getD 23 0) &&
                              byteZ (xs.getD 24 0) &&
                            byteZ (xs.getD 25 0) &&
                          byteZ (xs.getD 26 0) &&
                        byteZ (xs.getD 27 0))
                      (Tree.ite (rightB (dTy xs) (xs.getD 4 0) (dFl xs) (dNum xs) (dSe xs) (dLo xs))
                        (Tree.ite (true && decide (34 ≤ (↑xs.length : Int)))
                          (Tree.ite (decide (34 ≤ xs.length))
                            (Tree.leaf
                              {
                                v :=
                                  V.bool
                                    (sEq
                                      (bytesOf
                                        (List.take 34
                                          (List.drop 0
                                            (headBytes (dTy xs) (xs.getD 4 0) (dFl xs) (dCo xs) (xs.getD 20 0)
                                              (xs.getD 21 0) (xs.getD 22 0) (xs.getD 23 0) (xs.getD 24 0) (xs.getD 25 0)
                                              (xs.getD 26 0) (xs.getD 27 0) (dNum xs) (dSe xs) (dLo xs)))))
                                      (bytesOf (List.take 34 (List.drop 0 xs)))),
                                upd := [none], new := [] })
                            Tree.fail)
                          Tree.fail)
                        (Tree.leaf { v := V.fls, upd := [none], new := [] }))
                      Tree.fail)
                    (Tree.ite (decErr xs != 0) (Tree.leaf { v := V.bool true, upd := [none], new := [] })
                      (Tree.leaf { v := V.fls, upd := [none], new := [] })))
                  Tree.fail))))
          Tree.fail)
        Tree.fail)
      Tree.fail)
    (Tree.ite (allByte xs && decide (xs.length = xs.length) && decide (xs.length ≤ 9223372036854775806))
      (Tree.ite (decErr xs == 0)
        (Tree.ite
          (inI64 (dFl xs) && byteZ (xs.getD 20 0) && byteZ (xs.getD 21 0) && byteZ (xs.getD 22 0) &&
                    byteZ (xs.getD 23 0) &&
                  byteZ (xs.getD 24 0) &&
                byteZ (xs.getD 25 0) &&
              byteZ (xs.getD 26 0) &&
            byteZ (xs.getD 27 0))
          (Tree.ite (rightB (dTy xs) (xs.getD 4 0) (dFl xs) (dNum xs) (dSe xs) (dLo xs))
            (Tree.ite (true && decide (34 ≤ (↑xs.length : Int)))
              (Tree.ite (decide (34 ≤ xs.length))
                (Tree.leaf
                  {
                    v :=
                      V.bool
                        (sEq
                          (bytesOf
                            (List.take 34
                              (List.drop 0
                                (headBytes (dTy xs) (xs.getD 4 0) (dFl xs) (dCo xs) (xs.getD 20 0) (xs.getD 21 0)
                                  (xs.getD 22 0) (xs.getD 23 0) (xs.getD 24 0) (xs.getD 25 0) (xs.getD 26 0)
                                  (xs.getD 27 0) (dNum xs) (dSe xs) (dLo xs)))))
                          (bytesOf (List.take 34 (List.drop 0 xs)))),
                    upd := [none], new := [] })
                Tree.fail)
              Tree.fail)
            (Tree.leaf { v := V.fls, upd := [none], new := [] }))
          Tree.fail)
        (Tree.ite (decErr xs != 0) (Tree.leaf { v := V.bool true, upd := [none], new := [] })
          (Tree.leaf { v := V.fls, upd := [none], new := [] })))
      Tree.fail))
  Tree.fail) from by kernel_rfl]
    have hbz : bz c0 ∧ bz c1 ∧ bz c2 ∧ bz c3 ∧ bz c4 ∧ bz c5 ∧ bz c6 ∧ bz c7 := by
      simp only [Bool.and_eq_true, byteZ_iff] at hf
      simp only [bz]; omega
    have hg' : allByte xs = true := by simp only [Bool.and_eq_true] at hg; exact hg.1.1.2
    have hgl : decide (xs.length ≤ 9223372036854775806) = true := by simp only [Bool.and_eq_true] at hg; exact hg.2
    have hco : inI64 co = true := by simp only [Bool.and_eq_true] at hg; exact hg.1.1.1
    have hb34 : List.take 34 (List.drop 0 (headBytes ty dom fl co c0 c1 c2 c3 c4 c5 c6 c7 n se lo)) = headBytes ty dom fl co c0 c1 c2 c3 c4 c5 c6 c7 n se lo := rfl
    rw [hb34, wrap_long]
    obtain ⟨z, hz⟩ : ∃ z, z = List.replicate (longZ ty - 34).toNat (0 : Int) := ⟨_, rfl⟩
    rw [← hz]
    have hB : rightB ty dom fl n se lo = true → allByte (headBytes ty dom fl co c0 c1 c2 c3 c4 c5 c6 c7 n se lo ++ z) = true ∧ decErr (headBytes ty dom fl co c0 c1 c2 c3 c4 c5 c6 c7 n se lo ++ z) = 0 ∧ 34 ≤ longZ ty ∧
        (headBytes ty dom fl co c0 c1 c2 c3 c4 c5 c6 c7 n se lo ++ z).length ≤ 64 := by
      intro hr
      obtain ⟨f0, _⟩ := longZ_of (right_facts hr).1
      subst hz
      have hlen : ((List.replicate (longZ ty - 34).toNat (0 : Int)).length : Int) = longZ ty - 34 := by rw [List.length_replicate]; omega
      refine ⟨head_bytes hr hbz _, ?_, by omega, ?_⟩
      · rw [head_err hr hco, if_pos (by omega)]
      · rw [head_long]; omega
    have hT : rightB ty dom fl n se lo = true → _ := fun hr => head_told (c0 := c0) (c1 := c1) (c2 := c2) (c3 := c3) (c4 := c4) (c5 := c5) (c6 := c6) (c7 := c7) hr hco z
    have t0 : (headBytes ty dom fl co c0 c1 c2 c3 c4 c5 c6 c7 n se lo ++ z).getD 20 0 = c0 := rfl
    have t1 : (headBytes ty dom fl co c0 c1 c2 c3 c4 c5 c6 c7 n se lo ++ z).getD 21 0 = c1 := rfl
    have t2 : (headBytes ty dom fl co c0 c1 c2 c3 c4 c5 c6 c7 n se lo ++ z).getD 22 0 = c2 := rfl
    have t3 : (headBytes ty dom fl co c0 c1 c2 c3 c4 c5 c6 c7 n se lo ++ z).getD 23 0 = c3 := rfl
    have t4 : (headBytes ty dom fl co c0 c1 c2 c3 c4 c5 c6 c7 n se lo ++ z).getD 24 0 = c4 := rfl
    have t5 : (headBytes ty dom fl co c0 c1 c2 c3 c4 c5 c6 c7 n se lo ++ z).getD 25 0 = c5 := rfl
    have t6 : (headBytes ty dom fl co c0 c1 c2 c3 c4 c5 c6 c7 n se lo ++ z).getD 26 0 = c6 := rfl
    have t7 : (headBytes ty dom fl co c0 c1 c2 c3 c4 c5 c6 c7 n se lo ++ z).getD 27 0 = c7 := rfl
    rw [t0, t1, t2, t3, t4, t5, t6, t7]
    clear hb34 t0 t1 t2 t3 t4 t5 t6 t7 hz
    revert hB hT
    generalize headBytes ty dom fl co c0 c1 c2 c3 c4 c5 c6 c7 n se lo ++ z = B
    intro hB hT
    have hx : (decErr xs == 0) = decide (decErr xs = 0) := rfl
    have hx' : (decErr xs != 0) = !decide (decErr xs = 0) := rfl
    have hX : decErr xs = 0 → (inI64 (dFl xs) && byteZ (xs.getD 20 0) && byteZ (xs.getD 21 0) && byteZ (xs.getD 22 0) && byteZ (xs.getD 23 0) && byteZ (xs.getD 24 0) && byteZ (xs.getD 25 0) && byteZ (xs.getD 26 0) && byteZ (xs.getD 27 0)) = true := by
      intro h0
      have g := allByte_getD hg'
      have b6 := g 6
      have b7 := g 7
      simp only [Bool.and_eq_true, byteZ_iff]
      refine ⟨⟨⟨⟨⟨⟨⟨⟨?_, g 20⟩, g 21⟩, g 22⟩, g 23⟩, g 24⟩, g 25⟩, g 26⟩, g 27⟩
      rw [inI64_iff]; unfold dFl; omega
    cases hr : rightB ty dom fl n se lo with
    | true =>
      obtain ⟨i1, i2, i3, i4⟩ := hB hr
      have i5 := longZ_range ty
      obtain ⟨e1, e2, e3, e4, e5, e6, e7⟩ := hT hr
      by_cases h0 : decErr xs = 0
      · obtain ⟨k1, k2, k3, k4, k5⟩ := told_right hg' h0
        simp only [denN_ite, denN_leaf, denN_fail, hf, if_true, hx, hx', hX h0, k2, h0, decide_true]
        simp only [i1, i2, e1, e2, e3, e4, e5, e6, e7, hg', hgl, decide_true, Bool.and_true, Bool.true_and, if_true, Bool.and_self, beq_self_eq_true, Bool.not_true, Bool.false_eq_true, if_false]
        rw [if_pos (by simp; omega), if_pos (by simp; omega), if_pos (by simp; omega), if_pos (by simp; omega), if_pos (by simp; omega)]
        rw [show List.take 34 (List.drop 0 (headBytes (dTy xs) (xs.getD 4 0) (dFl xs) (dCo xs) (xs.getD 20 0) (xs.getD 21 0) (xs.getD 22 0) (xs.getD 23 0) (xs.getD 24 0) (xs.getD 25 0) (xs.getD 26 0) (xs.getD 27 0) (dNum xs) (dSe xs) (dLo xs))) =
          headBytes (dTy xs) (xs.getD 4 0) (dFl xs) (dCo xs) (xs.getD 20 0) (xs.getD 21 0) (xs.getD 22 0) (xs.getD 23 0) (xs.getD 24 0) (xs.getD 25 0) (xs.getD 26 0) (xs.getD 27 0) (dNum xs) (dSe xs) (dLo xs) from rfl, k5, List.drop_zero, sEq_refl]
      · simp only [denN_ite, denN_leaf, denN_fail, hf, if_true, hx, hx', h0, decide_false]
        simp only [i1, i2, e1, e2, e3, e4, e5, e6, e7, hg', hgl, decide_true, Bool.and_true, Bool.true_and, if_true, Bool.and_self, beq_self_eq_true, Bool.not_true, Bool.not_false, Bool.false_eq_true, if_false]
        rw [if_pos (by simp; omega), if_pos (by simp; omega), if_pos (by simp; omega)]
    | false =>
      by_cases h0 : decErr xs = 0
      · obtain ⟨k1, k2, k3, k4, k5⟩ := told_right hg' h0
        simp only [denN_ite, denN_leaf, denN_fail, hf, if_true, hx, hx', hX h0, k2, h0, decide_true]
        simp only [hg', hgl, decide_true, Bool.and_true, Bool.true_and, if_true, Bool.and_self, beq_self_eq_true, Bool.not_true, Bool.false_eq_true, if_false]
        rw [if_pos (by simp; omega), if_pos (by simp; omega)]
        rw [show List.take 34 (List.drop 0 (headBytes (dTy xs) (xs.getD 4 0) (dFl xs) (dCo xs) (xs.getD 20 0) (xs.getD 21 0) (xs.getD 22 0) (xs.getD 23 0) (xs.getD 24 0) (xs.getD 25 0) (xs.getD 26 0) (xs.getD 27 0) (dNum xs) (dSe xs) (dLo xs))) =
          headBytes (dTy xs) (xs.getD 4 0) (dFl xs) (dCo xs) (xs.getD 20 0) (xs.getD 21 0) (xs.getD 22 0) (xs.getD 23 0) (xs.getD 24 0) (xs.getD 25 0) (xs.getD 26 0) (xs.getD 27 0) (dNum xs) (dSe xs) (dLo xs) from rfl, k5, List.drop_zero, sEq_refl]
      · simp only [denN_ite, denN_leaf, denN_fail, hf, if_true, hx, hx', h0, decide_false]
        simp only [hg', hgl, decide_true, Bool.and_true, Bool.true_and, if_true, Bool.and_self, beq_self_eq_true, Bool.not_true, Bool.not_false, Bool.false_eq_true, if_false]
  · simp [den_fail] at h
end Go.Proofs.Ytfinaphmjnajjaa

set_option maxRecDepth 100000
set_option linter.unusedSimpArgs false
set_option linter.unusedVariables false
namespace Go.Proofs.Ytfinaphmjnajjaa
open Go.Rx

theorem long_right {k : Int} (h : longZ k ≠ 0) : rightB k 0 0 1 0 0 = true := by
  have : k = 0 ∨ k = 1 ∨ k = 8 ∨ k = 9 ∨ k = 11 := by
    unfold longZ at h
    split at h
    · omega
    · split at h
      · omega
      · split at h
        · omega
        · exact absurd rfl h
  rcases this with rfl | rfl | rfl | rfl | rfl <;> rfl

def longlS : Rx.Spec := fun a b => match a, b with
  | [.int .i64 k, .sl 0 0 0 1 l cap], [.ints .u8 xs] => .need (allByte xs && decide (l = xs.length)) (.leaf ⟨.bool true, [none], []⟩)
  | _, _ => .fail
theorem longl_G : GammaOK P [(10, encS), (17, decS), (12, aliveS), (15, longS), (16, longS)] := .cons encode_ok (.cons decode_ok (.cons alive_ok (.cons long_ok (.cons refLong_ok (.nil P)))))
theorem allByte_append (xs ys : List Int) : allByte (xs ++ ys) = (allByte xs && allByte ys) := by simp [allByte]
theorem longl_ok : SpecOK P 9 longlS := by
  refine specOK_fast longl_G hm (Λ := loopsOf []) Try.func9 (by kernel_rfl) (LoopsOK.nil (by kernel_rfl)) ?_
  intro args bs r h
  unfold longlS at h
  split at h
  · rename_i k l cap xs
    rw [den_need, den_leaf] at h
    obtain ⟨hf, rfl⟩ := h
    simp only [Bool.and_eq_true, decide_eq_true_eq] at hf
    obtain ⟨hb, rfl⟩ := hf
    rw [show (fFn P (specsOf [(10, encS), (17, decS), (12, aliveS), (15, longS), (16, longS)]) (loopsOf []) Try.f9 [.int .i64 k, .sl 0 0 0 1 xs.length cap] [.ints .u8 xs]).denN = Tree.denN (Tree.ite (longZ k != longZ k) (Tree.leaf { v := V.bool (longZ k == longZ k), upd := [none], new := [] })
  (Tree.ite (longZ k == 0) (Tree.leaf { v := V.bool (longZ k == longZ k), upd := [none], new := [] })
    (Tree.ite (decide ((↑xs.length : Int) > 200))
      (Tree.leaf { v := V.bool (longZ k == longZ k), upd := [none], new := [] })
      (Tree.ite (rightB k 0 0 1 0 0)
        (Tree.ite (true && decide (0 + xs.length ≤ xs.length))
          (Tree.ite
            (decide
              ((List.take 34 (List.drop 0 (headBytes k 0 0 0 0 0 0 0 0 0 0 0 1 0 0)) ++
                      List.take xs.length (List.drop 0 xs)).length *
                  1 ≤
                140737488355328))
            (Tree.ite
              (allByte
                    (List.take 34 (List.drop 0 (headBytes k 0 0 0 0 0 0 0 0 0 0 0 1 0 0)) ++
                      List.take xs.length (List.drop 0 xs)) &&
                  decide
                    ((List.take 34 (List.drop 0 (headBytes k 0 0 0 0 0 0 0 0 0 0 0 1 0 0)) ++
                          List.take xs.length (List.drop 0 xs)).length =
                      (List.take 34 (List.drop 0 (headBytes k 0 0 0 0 0 0 0 0 0 0 0 1 0 0)) ++
                          List.take xs.length (List.drop 0 xs)).length) &&
                decide
                  ((List.take 34 (List.drop 0 (headBytes k 0 0 0 0 0 0 0 0 0 0 0 1 0 0)) ++
                        List.take xs.length (List.drop 0 xs)).length ≤
                    9223372036854775806))
              (Tree.ite
                (decErr
                    (List.take 34 (List.drop 0 (headBytes k 0 0 0 0 0 0 0 0 0 0 0 1 0 0)) ++
                      List.take xs.length (List.drop 0 xs)) ==
                  0)
                (Tree.leaf
                  { v := V.bool (true == (IntKind.i64.wrap (34 + (↑xs.length : Int)) == longZ k)), upd := [none],
                    new := [] })
                (Tree.leaf
                  {
                    v :=
                      V.bool
                        ((decErr
                              (List.take 34 (List.drop 0 (headBytes k 0 0 0 0 0 0 0 0 0 0 0 1 0 0)) ++
                                List.take xs.length (List.drop 0 xs)) ==
                            0) ==
                          (IntKind.i64.wrap (34 + (↑xs.length : Int)) == longZ k)),
                    upd := [none], new := [] }))
              Tree.fail)
            Tree.fail)
          Tree.fail)
        (Tree.ite (true && decide (0 + xs.length ≤ xs.length))
          (Tree.ite
            (decide
              ((List.take 0 (List.drop 0 []) ++ List.take xs.length (List.drop 0 xs)).length * 1 ≤ 140737488355328))
            (Tree.ite
              (allByte (List.take 0 (List.drop 0 []) ++ List.take xs.length (List.drop 0 xs)) &&
                  decide
                    ((List.take 0 (List.drop 0 []) ++ List.take xs.length (List.drop 0 xs)).length =
                      (List.take 0 (List.drop 0 []) ++ List.take xs.length (List.drop 0 xs)).length) &&
                decide
                  ((List.take 0 (List.drop 0 []) ++ List.take xs.length (List.drop 0 xs)).length ≤ 9223372036854775806))
              (Tree.ite (decErr (List.take 0 (List.drop 0 []) ++ List.take xs.length (List.drop 0 xs)) == 0)
                (Tree.leaf { v := V.fls, upd := [none], new := [] })
                (Tree.leaf { v := V.fls, upd := [none], new := [] }))
              Tree.fail)
            Tree.fail)
          Tree.fail))))) from by kernel_rfl]
    by_cases hk : longZ k = 0
    · simp only [denN_ite, denN_leaf, denN_fail, hk, beq_self_eq_true, bne_self_eq_false, if_true, Bool.false_eq_true, if_false]
      try rfl
    · have hr := long_right hk
      obtain ⟨f0, f1, f2, f3⟩ := longZ_of (right_facts hr).1
      have he := head_err (c0 := 0) (c1 := 0) (c2 := 0) (c3 := 0) (c4 := 0) (c5 := 0) (c6 := 0) (c7 := 0) (co := 0) hr (by rfl) xs
      have hbb := head_bytes (c0 := 0) (c1 := 0) (c2 := 0) (c3 := 0) (c4 := 0) (c5 := 0) (c6 := 0) (c7 := 0) (co := 0) hr (by simp [bz]) 0
      simp only [List.replicate_zero, List.append_nil] at hbb
      by_cases h2 : (xs.length : Int) > 200
      · simp only [denN_ite, denN_leaf, denN_fail, h2, hr, bne_self_eq_false, if_true, Bool.false_eq_true, if_false, decide_true]
        cases h9 : longZ k == 0 <;> simp only [beq_self_eq_true, if_true, Bool.false_eq_true, if_false] <;> rfl
      · simp only [denN_ite, denN_leaf, denN_fail, h2, hr, bne_self_eq_false, if_true, Bool.false_eq_true, if_false, decide_false]
        rw [show List.take xs.length (List.drop 0 xs) = xs by simp, show List.take 34 (List.drop 0 (headBytes k 0 0 0 0 0 0 0 0 0 0 0 1 0 0)) = headBytes k 0 0 0 0 0 0 0 0 0 0 0 1 0 0 from rfl]
        have hlen := head_long (ty := k) (dom := 0) (fl := 0) (co := 0) (c0 := 0) (c1 := 0) (c2 := 0) (c3 := 0) (c4 := 0) (c5 := 0) (c6 := 0) (c7 := 0) (n := 1) (se := 0) (lo := 0) xs
        rw [if_neg (by simpa using hk), if_pos (by simp), if_pos (by rw [hlen]; simp; omega), if_pos (by rw [allByte_append, hbb, hb, hlen]; simp; omega)]
        rw [wrap64_id (by omega) (by omega), he]
        by_cases hq : (34 + xs.length : Int) = longZ k
        · rw [if_pos hq, if_pos (by rfl)]
          exact resB (by simpa using hq)
        · rw [if_neg hq, if_neg (by decide)]
          exact resB (by simpa using hq)
  · simp [den_fail] at h

theorem xor_byte {x y : Int} (h0 : 0 ≤ x) (h1 : x ≤ 255) (h2 : 1 ≤ y) (h3 : y ≤ 255) : 0 ≤ bXor .u8 x (IntKind.u8.wrap y) ∧ bXor .u8 x (IntKind.u8.wrap y) ≤ 255 ∧ bXor .u8 x (IntKind.u8.wrap y) ≠ x := by
  have ey : IntKind.u8.wrap y = y := by rw [IntKind.wrap_u8]; omega
  rw [ey]
  unfold bXor
  have hb : IntKind.u8.bits = 8 := rfl
  show 0 ≤ IntKind.u8.wrap ((BitVec.ofInt 8 x ^^^ BitVec.ofInt 8 y).toNat : Int) ∧ IntKind.u8.wrap ((BitVec.ofInt 8 x ^^^ BitVec.ofInt 8 y).toNat : Int) ≤ 255 ∧ IntKind.u8.wrap ((BitVec.ofInt 8 x ^^^ BitVec.ofInt 8 y).toNat : Int) ≠ x
  have hlt := (BitVec.ofInt 8 x ^^^ BitVec.ofInt 8 y).isLt
  rw [IntKind.wrap_u8]
  refine ⟨by omega, by omega, fun he => ?_⟩
  have e1 : ((BitVec.ofInt 8 x ^^^ BitVec.ofInt 8 y).toNat : Int) = x := by omega
  have e2 : BitVec.ofInt 8 x ^^^ BitVec.ofInt 8 y = BitVec.ofInt 8 x := by
    apply BitVec.eq_of_toNat_eq
    rw [BitVec.toNat_ofInt]
    omega
  have e3 : BitVec.ofInt 8 y = 0#8 := by
    have := congrArg (BitVec.ofInt 8 x ^^^ ·) e2
    simp only [← BitVec.xor_assoc, BitVec.xor_self, BitVec.zero_xor] at this
    exact this
  have e4 := congrArg BitVec.toNat e3
  rw [BitVec.toNat_ofInt] at e4
  simp at e4
  omega

def turnedS : Rx.Spec := fun a b => match a, b with
  | [.agg [.int .i64 ty, .int .i64 dom, .int .i64 fl, .int .i64 co, .int .u8 c0, .int .u8 c1, .int .u8 c2, .int .u8 c3, .int .u8 c4, .int .u8 c5, .int .u8 c6, .int .u8 c7, .int .i64 n, .int .i64 se, .int .i64 lo], .int .i64 at', .int .i64 tu], [] =>
    .need (inI64 fl && byteZ c0 && byteZ c1 && byteZ c2 && byteZ c3 && byteZ c4 && byteZ c5 && byteZ c6 && byteZ c7) (.need (inI64 co) (.leaf ⟨.bool true, [], []⟩))
  | _, _ => .fail
theorem turned_G : GammaOK P [(10, encS), (17, decS), (12, aliveS), (16, longS)] := .cons encode_ok (.cons decode_ok (.cons alive_ok (.cons refLong_ok (.nil P))))
theorem turned_ok : SpecOK P 8 turnedS := by
  refine specOK_fast turned_G hm (Λ := loopsOf []) Try.func8 (by kernel_rfl) (LoopsOK.nil (by kernel_rfl)) ?_
  intro args bs r h
  unfold turnedS at h
  split at h
  · rename_i ty dom fl co c0 c1 c2 c3 c4 c5 c6 c7 n se lo at' tu
    rw [den_need, den_need, den_leaf] at h
    obtain ⟨hf, hco, rfl⟩ := h
    rw [show (fFn P (specsOf [(10, encS), (17, decS), (12, aliveS), (16, longS)]) (loopsOf []) Try.f8 [.agg [.int .i64 ty, .int .i64 dom, .int .i64 fl, .int .i64 co, .int .u8 c0, .int .u8 c1, .int .u8 c2, .int .u8 c3, .int .u8 c4, .int .u8 c5, .int .u8 c6, .int .u8 c7, .int .i64 n, .int .i64 se, .int .i64 lo], .int .i64 at', .int .i64 tu] []).denN = Tree.denN (Tree.ite (inI64 fl && byteZ c0 && byteZ c1 && byteZ c2 && byteZ c3 && byteZ c4 && byteZ c5 && byteZ c6 && byteZ c7)
  (Tree.ite (rightB ty dom fl n se lo)
    (Tree.ite (decide (at' < 0)) (Tree.leaf { v := V.bool true, upd := [], new := [] })
      (Tree.ite (decide (at' > 33)) (Tree.leaf { v := V.bool true, upd := [], new := [] })
        (Tree.ite (decide (tu < 1)) (Tree.leaf { v := V.bool true, upd := [], new := [] })
          (Tree.ite (decide (tu > 255)) (Tree.leaf { v := V.bool true, upd := [], new := [] })
            (Tree.ite
              (true && decide (0 ≤ IntKind.i64.wrap (longZ ty - 34)) &&
                decide (IntKind.i64.wrap (longZ ty - 34) ≤ 140737488355328))
              (Tree.ite
                (decide
                  ((List.take 34 (List.drop 0 (headBytes ty dom fl co c0 c1 c2 c3 c4 c5 c6 c7 n se lo)) ++
                          List.replicate (IntKind.i64.wrap (longZ ty - 34)).toNat 0).length *
                      1 ≤
                    140737488355328))
                (Tree.ite
                  (decide (0 ≤ at') &&
                    decide
                      (at' <
                        (↑(List.take 34 (List.drop 0 (headBytes ty dom fl co c0 c1 c2 c3 c4 c5 c6 c7 n se lo)) ++
                                List.replicate (IntKind.i64.wrap (longZ ty - 34)).toNat 0).length :
                          Int)))
                  (Tree.ite
                    (decide
                      (0 + at'.toNat + 1 ≤
                        (List.take 34 (List.drop 0 (headBytes ty dom fl co c0 c1 c2 c3 c4 c5 c6 c7 n se lo)) ++
                            List.replicate (IntKind.i64.wrap (longZ ty - 34)).toNat 0).length))
                    (Tree.ite
                      (decide (0 ≤ at') &&
                        decide
                          (at' <
                            (↑(List.take 34 (List.drop 0 (headBytes ty dom fl co c0 c1 c2 c3 c4 c5 c6 c7 n se lo)) ++
                                    List.replicate (IntKind.i64.wrap (longZ ty - 34)).toNat 0).length :
                              Int)))
                      (Tree.ite
                        (decide
                          (0 + at'.toNat <
                            (List.take 34 (List.drop 0 (headBytes ty dom fl co c0 c1 c2 c3 c4 c5 c6 c7 n se lo)) ++
                                List.replicate (IntKind.i64.wrap (longZ ty - 34)).toNat 0).length))
                        (Tree.ite
                          (allByte
                                ((List.take 34 (List.drop 0 (headBytes ty dom fl co c0 c1 c2 c3 c4 c5 c6 c7 n se lo)) ++
                                      List.replicate (IntKind.i64.wrap (longZ ty - 34)).toNat 0).set
                                  (0 + at'.toNat)
                                  (bXor IntKind.u8
                                    ((List.take 34
                                            (List.drop 0 (headBytes ty dom fl co c0 c1 c2 c3 c4 c5 c6 c7 n se lo)) ++
                                          List.replicate (IntKind.i64.wrap (longZ ty - 34)).toNat 0).getD
                                      (0 + at'.toNat + 0) 0)
                                    (IntKind.u8.wrap tu))) &&
                              decide
                                ((List.take 34 (List.drop 0 (headBytes ty dom fl co c0 c1 c2 c3 c4 c5 c6 c7 n se lo)) ++
                                      List.replicate (IntKind.i64.wrap (longZ ty - 34)).toNat 0).length =
                                  ((List.take 34
                                            (List.drop 0 (headBytes ty dom fl co c0 c1 c2 c3 c4 c5 c6 c7 n se lo)) ++
                                          List.replicate (IntKind.i64.wrap (longZ ty - 34)).toNat 0).set
                                      (0 + at'.toNat)
                                      (bXor IntKind.u8
                                        ((List.take 34
                                                (List.drop 0
                                                  (headBytes ty dom fl co c0 c1 c2 c3 c4 c5 c6 c7 n se lo)) ++
                                              List.replicate (IntKind.i64.wrap (longZ ty - 34)).toNat 0).getD
                                          (0 + at'.toNat + 0) 0)
                                        (IntKind.u8.wrap tu))).length) &&
                            decide
                              ((List.take 34 (List.drop 0 (headBytes ty dom fl co c0 c1 c2 c3 c4 c5 c6 c7 n se lo)) ++
                                    List.replicate (IntKind.i64.wrap (longZ ty - 34)).toNat 0).length ≤
                                9223372036854775806))
                          (Tree.ite
                            (decErr
                                ((List.take 34 (List.drop 0 (headBytes ty dom fl co c0 c1 c2 c3 c4 c5 c6 c7 n se lo)) ++
                                      List.replicate (IntKind.i64.wrap (longZ ty - 34)).toNat 0).set
                                  (0 + at'.toNat)
                                  (bXor IntKind.u8
                                    ((List.take 34
                                            (List.drop 0 (headBytes ty dom fl co c0 c1 c2 c3 c4 c5 c6 c7 n se lo)) ++
                                          List.replicate (IntKind.i64.wrap (longZ ty - 34)).toNat 0).getD
                                      (0 + at'.toNat + 0) 0)
                                    (IntKind.u8.wrap tu))) ==
                              0)
                            (Tree.leaf
                              {
                                v :=
                                  V.bool
                                    !(dTy
                                            ((List.take 34
                                                    (List.drop 0
                                                      (headBytes ty dom fl co c0 c1 c2 c3 c4 c5 c6 c7 n se lo)) ++
                                                  List.replicate (IntKind.i64.wrap (longZ ty - 34)).toNat 0).set
                                              (0 + at'.toNat)
                                              (bXor IntKind.u8
                                                ((List.take 34
                                                        (List.drop 0
                                                          (headBytes ty dom fl co c0 c1 c2 c3 c4 c5 c6 c7 n se lo)) ++
                                                      List.replicate (IntKind.i64.wrap (longZ ty - 34)).toNat 0).getD
                                                  (0 + at'.toNat + 0) 0)
                                                (IntKind.u8.wrap tu))) ==
                                          ty &&
                                        (((List.take 34
                                                        (List.drop 0
                                                          (headBytes ty dom fl co c0 c1 c2 c3 c4 c5 c6 c7 n se lo)) ++
                                                      List.replicate (IntKind.i64.wrap (longZ ty - 34)).toNat 0).set
                                                  (0 + at'.toNat)
                                                  (bXor IntKind.u8
                                                    ((List.take 34
                                                            (List.drop 0
                                                              (headBytes ty dom fl co c0 c1 c2 c3 c4 c5 c6 c7 n se
                                                                lo)) ++
                                                          List.replicate (IntKind.i64.wrap (longZ ty - 34)).toNat
                                                            0).getD
                                                      (0 + at'.toNat + 0) 0)
                                                    (IntKind.u8.wrap tu))).getD
                                              4 0 ==
                                            dom &&
                                          (dFl
                                                ((List.take 34
                                                        (List.drop 0
                                                          (headBytes ty dom fl co c0 c1 c2 c3 c4 c5 c6 c7 n se lo)) ++
                                                      List.replicate (IntKind.i64.wrap (longZ ty - 34)).toNat 0).set
                                                  (0 + at'.toNat)
                                                  (bXor IntKind.u8
                                                    ((List.take 34
                                                            (List.drop 0
                                                              (headBytes ty dom fl co c0 c1 c2 c3 c4 c5 c6 c7 n se
                                                                lo)) ++
                                                          List.replicate (IntKind.i64.wrap (longZ ty - 34)).toNat
                                                            0).getD
                                                      (0 + at'.toNat + 0) 0)
                                                    (IntKind.u8.wrap tu))) ==
                                              fl &&
                                            (dCo
                                                  ((List.take 34
                                                          (List.drop 0
                                                            (headBytes ty dom fl co c0 c1 c2 c3 c4 c5 c6 c7 n se lo)) ++
                                                        List.replicate (IntKind.i64.wrap (longZ ty - 34)).toNat 0).set
                                                    (0 + at'.toNat)
                                                    (bXor IntKind.u8
                                                      ((List.take 34
                                                              (List.drop 0
                                                                (headBytes ty dom fl co c0 c1 c2 c3 c4 c5 c6 c7 n se
                                                                  lo)) ++
                                                            List.replicate (IntKind.i64.wrap (longZ ty - 34)).toNat
                                                              0).getD
                                                        (0 + at'.toNat + 0) 0)
                                                      (IntKind.u8.wrap tu))) ==
                                                co &&
                                              (((List.take 34
                                                                  (List.drop 0
                                                                    (headBytes ty dom fl co c0 c1 c2 c3 c4 c5 c6 c7 n se
                                                                      lo)) ++
                                                                List.replicate (IntKind.i64.wrap (longZ ty - 34)).toNat
                                                                  0).set
                                                            (0 + at'.toNat)
                                                            (bXor IntKind.u8
                                                              ((List.take 34
                                                                      (List.drop 0
                                                                        (headBytes ty dom fl co c0 c1 c2 c3 c4 c5 c6 c7
                                                                          n se lo)) ++
                                                                    List.replicate
                                                                      (IntKind.i64.wrap (longZ ty - 34)).toNat 0).getD
                                                                (0 + at'.toNat + 0) 0)
                                                              (IntKind.u8.wrap tu))).getD
                                                        20 0 ==
                                                      c0 &&
                                                    (((List.take 34
                                                                    (List.drop 0
                                                                      (headBytes ty dom fl co c0 c1 c2 c3 c4 c5 c6 c7 n
                                                                        se lo)) ++
                                                                  List.replicate
                                                                    (IntKind.i64.wrap (longZ ty - 34)).toNat 0).set
                                                              (0 + at'.toNat)
                                                              (bXor IntKind.u8
                                                                ((List.take 34
                                                                        (List.drop 0
                                                                          (headBytes ty dom fl co c0 c1 c2 c3 c4 c5 c6
                                                                            c7 n se lo)) ++
                                                                      List.replicate
                                                                        (IntKind.i64.wrap (longZ ty - 34)).toNat 0).getD
                                                                  (0 + at'.toNat + 0) 0)
                                                                (IntKind.u8.wrap tu))).getD
                                                          21 0 ==
                                                        c1 &&
                                                      (((List.take 34
                                                                      (List.drop 0
                                                                        (headBytes ty dom fl co c0 c1 c2 c3 c4 c5 c6 c7
                                                                          n se lo)) ++
                                                                    List.replicate
                                                                      (IntKind.i64.wrap (longZ ty - 34)).toNat 0).set
                                                                (0 + at'.toNat)
                                                                (bXor IntKind.u8
                                                                  ((List.take 34
                                                                          (List.drop 0
                                                                            (headBytes ty dom fl co c0 c1 c2 c3 c4 c5 c6
                                                                              c7 n se lo)) ++
                                                                        List.replicate
                                                                          (IntKind.i64.wrap (longZ ty - 34)).toNat
                                                                          0).getD
                                                                    (0 + at'.toNat + 0) 0)
                                                                  (IntKind.u8.wrap tu))).getD
                                                            22 0 ==
                                                          c2 &&
                                                        (((List.take 34
                                                                        (List.drop 0
                                                                          (headBytes ty dom fl co c0 c1 c2 c3 c4 c5 c6
                                                                            c7 n se lo)) ++
                                                                      List.replicate
                                                                        (IntKind.i64.wrap (longZ ty - 34)).toNat 0).set
                                                                  (0 + at'.toNat)
                                                                  (bXor IntKind.u8
                                                                    ((List.take 34
                                                                            (List.drop 0
                                                                              (headBytes ty dom fl co c0 c1 c2 c3 c4 c5
                                                                                c6 c7 n se lo)) ++
                                                                          List.replicate
                                                                            (IntKind.i64.wrap (longZ ty - 34)).toNat
                                                                            0).getD
                                                                      (0 + at'.toNat + 0) 0)
                                                                    (IntKind.u8.wrap tu))).getD
                                                              23 0 ==
                                                            c3 &&
                                                          (((List.take 34
                                                                          (List.drop 0
                                                                            (headBytes ty dom fl co c0 c1 c2 c3 c4 c5 c6
                                                                              c7 n se lo)) ++
                                                                        List.replicate
                                                                          (IntKind.i64.wrap (longZ ty - 34)).toNat
                                                                          0).set
                                                                    (0 + at'.toNat)
                                                                    (bXor IntKind.u8
                                                                      ((List.take 34
                                                                              (List.drop 0
                                                                                (headBytes ty dom fl co c0 c1 c2 c3 c4
                                                                                  c5 c6 c7 n se lo)) ++
                                                                            List.replicate
                                                                              (IntKind.i64.wrap (longZ ty - 34)).toNat
                                                                              0).getD
                                                                        (0 + at'.toNat + 0) 0)
                                                                      (IntKind.u8.wrap tu))).getD
                                                                24 0 ==
                                                              c4 &&
                                                            (((List.take 34
                                                                            (List.drop 0
                                                                              (headBytes ty dom fl co c0 c1 c2 c3 c4 c5
                                                                                c6 c7 n se lo)) ++
                                                                          List.replicate
                                                                            (IntKind.i64.wrap (longZ ty - 34)).toNat
                                                                            0).set
                                                                      (0 + at'.toNat)
                                                                      (bXor IntKind.u8
                                                                        ((List.take 34
                                                                                (List.drop 0
                                                                                  (headBytes ty dom fl co c0 c1 c2 c3 c4
                                                                                    c5 c6 c7 n se lo)) ++
                                                                              List.replicate
                                                                                (IntKind.i64.wrap (longZ ty - 34)).toNat
                                                                                0).getD
                                                                          (0 + at'.toNat + 0) 0)
                                                                        (IntKind.u8.wrap tu))).getD
                                                                  25 0 ==
                                                                c5 &&
                                                              (((List.take 34
                                                                              (List.drop 0
                                                                                (headBytes ty dom fl co c0 c1 c2 c3 c4
                                                                                  c5 c6 c7 n se lo)) ++
                                                                            List.replicate
                                                                              (IntKind.i64.wrap (longZ ty - 34)).toNat
                                                                              0).set
                                                                        (0 + at'.toNat)
                                                                        (bXor IntKind.u8
                                                                          ((List.take 34
                                                                                  (List.drop 0
                                                                                    (headBytes ty dom fl co c0 c1 c2 c3
                                                                                      c4 c5 c6 c7 n se lo)) ++
                                                                                List.replicate
                                                                                  (IntKind.i64.wrap
                                                                                      (longZ ty - 34)).toNat
                                                                                  0).getD
                                                                            (0 + at'.toNat + 0) 0)
                                                                          (IntKind.u8.wrap tu))).getD
                                                                    26 0 ==
                                                                  c6 &&
                                                                (((List.take 34
                                                                                (List.drop 0
                                                                                  (headBytes ty dom fl co c0 c1 c2 c3 c4
                                                                                    c5 c6 c7 n se lo)) ++
                                                                              List.replicate
                                                                                (IntKind.i64.wrap (longZ ty - 34)).toNat
                                                                                0).set
                                                                          (0 + at'.toNat)
                                                                          (bXor IntKind.u8
                                                                            ((List.take 34
                                                                                    (List.drop 0
                                                                                      (headBytes ty dom fl co c0 c1 c2
                                                                                        c3 c4 c5 c6 c7 n se lo)) ++
                                                                                  List.replicate
                                                                                    (IntKind.i64.wrap
                                                                                        (longZ ty - 34)).toNat
                                                                                    0).getD
                                                                              (0 + at'.toNat + 0) 0)
                                                                            (IntKind.u8.wrap tu))).getD
                                                                      27 0 ==
                                                                    c7 &&
                                                                  true))))))) &&
                                                  (dNum
                                                        ((List.take 34
                                                                (List.drop 0
                                                                  (headBytes ty dom fl co c0 c1 c2 c3 c4 c5 c6 c7 n se
                                                                    lo)) ++
                                                              List.replicate (IntKind.i64.wrap (longZ ty - 34)).toNat
                                                                0).set
                                                          (0 + at'.toNat)
                                                          (bXor IntKind.u8
                                                            ((List.take 34
                                                                    (List.drop 0
                                                                      (headBytes ty dom fl co c0 c1 c2 c3 c4 c5 c6 c7 n
                                                                        se lo)) ++
                                                                  List.replicate
                                                                    (IntKind.i64.wrap (longZ ty - 34)).toNat 0).getD
                                                              (0 + at'.toNat + 0) 0)
                                                            (IntKind.u8.wrap tu))) ==
                                                      n &&
                                                    true) &&
                                                (dSe
                                                      ((List.take 34
                                                              (List.drop 0
                                                                (headBytes ty dom fl co c0 c1 c2 c3 c4 c5 c6 c7 n se
                                                                  lo)) ++
                                                            List.replicate (IntKind.i64.wrap (longZ ty - 34)).toNat
                                                              0).set
                                                        (0 + at'.toNat)
                                                        (bXor IntKind.u8
                                                          ((List.take 34
                                                                  (List.drop 0
                                                                    (headBytes ty dom fl co c0 c1 c2 c3 c4 c5 c6 c7 n se
                                                                      lo)) ++
                                                                List.replicate (IntKind.i64.wrap (longZ ty - 34)).toNat
                                                                  0).getD
                                                            (0 + at'.toNat + 0) 0)
                                                          (IntKind.u8.wrap tu))) ==
                                                    se &&
                                                  (dLo
                                                        ((List.take 34
                                                                (List.drop 0
                                                                  (headBytes ty dom fl co c0 c1 c2 c3 c4 c5 c6 c7 n se
                                                                    lo)) ++
                                                              List.replicate (IntKind.i64.wrap (longZ ty - 34)).toNat
                                                                0).set
                                                          (0 + at'.toNat)
                                                          (bXor IntKind.u8
                                                            ((List.take 34
                                                                    (List.drop 0
                                                                      (headBytes ty dom fl co c0 c1 c2 c3 c4 c5 c6 c7 n
                                                                        se lo)) ++
                                                                  List.replicate
                                                                    (IntKind.i64.wrap (longZ ty - 34)).toNat 0).getD
                                                              (0 + at'.toNat + 0) 0)
                                                            (IntKind.u8.wrap tu))) ==
                                                      lo &&
                                                    true))))))),
                                upd := [], new := [] })
                            (Tree.ite
                              (decErr
                                  ((List.take 34
                                          (List.drop 0 (headBytes ty dom fl co c0 c1 c2 c3 c4 c5 c6 c7 n se lo)) ++
                                        List.replicate (IntKind.i64.wrap (longZ ty - 34)).toNat 0).set
                                    (0 + at'.toNat)
                                    (bXor IntKind.u8
                                      ((List.take 34
                                              (List.drop 0 (headBytes ty dom fl co c0 c1 c2 c3 c4 c5 c6 c7 n se lo)) ++
                                            List.replicate (IntKind.i64.wrap (longZ ty - 34)).toNat 0).getD
                                        (0 + at'.toNat + 0) 0)
                                      (IntKind.u8.wrap tu))) !=
                                0)
                              (Tree.leaf { v := V.tru, upd := [], new := [] })
                              (Tree.ite
                                (decErr
                                    ((List.take 34
                                            (List.drop 0 (headBytes ty dom fl co c0 c1 c2 c3 c4 c5 c6 c7 n se lo)) ++
                                          List.replicate (IntKind.i64.wrap (longZ ty - 34)).toNat 0).set
                                      (0 + at'.toNat)
                                      (bXor IntKind.u8
                                        ((List.take 34
                                                (List.drop 0
                                                  (headBytes ty dom fl co c0 c1 c2 c3 c4 c5 c6 c7 n se lo)) ++
                                              List.replicate (IntKind.i64.wrap (longZ ty - 34)).toNat 0).getD
                                          (0 + at'.toNat + 0) 0)
                                        (IntKind.u8.wrap tu))) ==
                                  0)
                                (Tree.leaf
                                  {
                                    v :=
                                      V.bool
                                        !(0 == ty &&
                                            (0 == dom &&
                                              (0 == fl &&
                                                (0 == co &&
                                                  (0 == c0 &&
                                                        (0 == c1 &&
                                                          (0 == c2 &&
                                                            (0 == c3 &&
                                                              (0 == c4 &&
                                                                (0 == c5 && (0 == c6 && (0 == c7 && true))))))) &&
                                                      (0 == n && true) &&
                                                    (0 == se && (0 == lo && true))))))),
                                    upd := [], new := [] })
                                (Tree.leaf { v := V.fls, upd := [], new := [] }))))
                          Tree.fail)
                        Tree.fail)
                      Tree.fail)
                    Tree.fail)
                  Tree.fail)
                Tree.fail)
              Tree.fail)))))
    (Tree.leaf { v := V.bool true, upd := [], new := [] }))
  Tree.fail) from by kernel_rfl]
    have hbz : bz c0 ∧ bz c1 ∧ bz c2 ∧ bz c3 ∧ bz c4 ∧ bz c5 ∧ bz c6 ∧ bz c7 := by
      simp only [Bool.and_eq_true, byteZ_iff] at hf
      simp only [bz]; omega
    have hb34 : List.take 34 (List.drop 0 (headBytes ty dom fl co c0 c1 c2 c3 c4 c5 c6 c7 n se lo)) = headBytes ty dom fl co c0 c1 c2 c3 c4 c5 c6 c7 n se lo := rfl
    rw [hb34, wrap_long, Nat.zero_add]
    simp only [denN_ite, denN_leaf, denN_fail, hf, if_true]
    cases hr : rightB ty dom fl n se lo with
    | false => simp only [Bool.false_eq_true, if_false]
    | true =>
    simp only [if_true]
    by_cases g1 : at' < 0
    · rw [if_pos (by simpa using g1)]
    by_cases g2 : at' > 33
    · rw [if_neg (by simpa using g1), if_pos (by simpa using g2)]
    by_cases g3 : tu < 1
    · rw [if_neg (by simpa using g1), if_neg (by simpa using g2), if_pos (by simpa using g3)]
    by_cases g4 : tu > 255
    · rw [if_neg (by simpa using g1), if_neg (by simpa using g2), if_neg (by simpa using g3), if_pos (by simpa using g4)]
    rw [if_neg (by simpa using g1), if_neg (by simpa using g2), if_neg (by simpa using g3), if_neg (by simpa using g4)]
    obtain ⟨f0, f1, f2, f3⟩ := longZ_of (right_facts hr).1
    have hbb := head_bytes (co := co) hr hbz (longZ ty - 34).toNat
    have hlen := head_long (ty := ty) (dom := dom) (fl := fl) (co := co) (c0 := c0) (c1 := c1) (c2 := c2) (c3 := c3) (c4 := c4) (c5 := c5) (c6 := c6) (c7 := c7) (n := n) (se := se) (lo := lo) (List.replicate (longZ ty - 34).toNat (0 : Int))
    rw [List.length_replicate] at hlen
    have htake : (headBytes ty dom fl co c0 c1 c2 c3 c4 c5 c6 c7 n se lo ++ List.replicate (longZ ty - 34).toNat 0).take 34 = headBytes ty dom fl co c0 c1 c2 c3 c4 c5 c6 c7 n se lo := rfl
    generalize headBytes ty dom fl co c0 c1 c2 c3 c4 c5 c6 c7 n se lo ++ List.replicate (longZ ty - 34).toNat 0 = B at *
    obtain ⟨j, rfl⟩ := Int.eq_ofNat_of_zero_le (Int.not_lt.1 g1)
    have hj : ((j : Int)).toNat = j := by omega
    have hx0 := allByte_getD hbb j
    obtain ⟨v, hv⟩ : ∃ v, v = bXor IntKind.u8 (B.getD j 0) (IntKind.u8.wrap tu) := ⟨_, rfl⟩
    have hvx := xor_byte (x := B.getD j 0) (y := tu) hx0.1 hx0.2 (by omega) (by omega)
    rw [hj, show j + 0 = j from rfl, ← hv]
    rw [← hv] at hvx
    have hY : allByte (B.set j v) = true := by
      unfold allByte at hbb ⊢
      rw [List.all_eq_true] at hbb ⊢
      intro x hx
      rcases List.mem_or_eq_of_mem_set hx with hx | rfl
      · exact hbb x hx
      · rw [byteZ_iff]; exact ⟨hvx.1, hvx.2.1⟩
    rw [if_pos (by first | (simp; done) | (simp; omega)), if_pos (by first | (simp; done) | (simp; omega)), if_pos (by first | (simp; done) | (simp; omega)), if_pos (by first | (simp; done) | (simp; omega)), if_pos (by first | (simp; done) | (simp; omega)), if_pos (by first | (simp; done) | (simp; omega)), if_pos (by rw [hY]; simp; omega)]
    by_cases hd : decErr (B.set j v) = 0
    · rw [if_pos (by simpa using hd)]
      refine resB ?_
      rw [Bool.not_eq_true', Bool.eq_false_iff]
      intro hh
      simp only [Bool.and_eq_true, beq_iff_eq] at hh
      obtain ⟨_, _, _, _, k5⟩ := told_right hY hd
      obtain ⟨m1, m2, m3, m4, ⟨⟨m5, m6, m7, m8, m9, m10, m11, m12, _⟩, m13, _⟩, m14, m15, _⟩ := hh
      rw [m1, m2, m3, m4, m5, m6, m7, m8, m9, m10, m11, m12, m13, m14, m15, ← htake] at k5
      have k6 := congrArg (fun l => l[j]?) k5
      simp only [List.getElem?_take, List.getElem?_set, if_true] at k6
      rw [if_pos (by omega), if_pos (by omega), if_pos (by omega)] at k6
      apply hvx.2.2
      rw [List.getD_eq_getElem?_getD, k6]
      rfl
    · rw [if_neg (by simpa using hd), if_pos (by simpa using hd)]
      rfl
  · simp [den_fail] at h
end Go.Proofs.Ytfinaphmjnajjaa

set_option maxRecDepth 100000
set_option linter.unusedSimpArgs false
set_option linter.unusedVariables false
namespace Go.Proofs.Ytfinaphmjnajjaa
open Go.Rx

def turnF (vals : List V) (bs : List Blk) : Tree LRes := match vals, bs with
  | [.int .i64 n, .int .i64 many, .int .i64 k], [] =>
    .need (decide (0 ≤ n) && decide (n ≤ 65535) && decide (0 ≤ k) && decide (k ≤ many) && decide (many ≤ 3000)) (.leaf ⟨.exit 0, [.int .i64 ((n + (many - k)) % 65536)], [], []⟩)
  | _, _ => .fail
def turnL : LSpec := ⟨48, [5, 22, 23], [5], turnF⟩
theorem turn_G : GammaOK P [(19, nextS)] := .cons next_ok (.nil P)
theorem next_mod {n : Int} (h0 : 0 ≤ n) (h1 : n ≤ 65535) : nextZ n = (n + 1) % 65536 := by unfold nextZ; split <;> omega
theorem turn_rounds (many : Int) (hm : many ≤ 3000) : ∀ (m : Nat) (n k : Int), 0 ≤ n → n ≤ 65535 → 0 ≤ k → k + m = many →
    (loopN P (specsOf [(19, nextS)]) (loopsOf []) 48 [5, 22, 23] [5] (loopAt Try.f7 0) (m + 1) [.int .i64 n, .int .i64 many, .int .i64 k] []).den = some ⟨.exit 0, [.int .i64 ((n + (m : Int)) % 65536)], [], []⟩ := by
  have round : ∀ (n many k : Int), (evRound P (specsOf [(19, nextS)]) (loopsOf []) 48 [5, 22, 23] [5] (loopAt Try.f7 0) [.int .i64 n, .int .i64 many, .int .i64 k] []).den = Tree.den (Tree.ite (decide (k < many))
  (Tree.leaf
    { e := Ex.nrm,
      vs := [V.int IntKind.i64 (nextZ n), V.int IntKind.i64 many, V.int IntKind.i64 (IntKind.i64.wrap (k + 1))],
      upd := [], new := [] })
  (Tree.leaf { e := Ex.exit 0, vs := [V.int IntKind.i64 n], upd := [], new := [] })) := by
    intro n many k
    kernel_rfl
  intro m
  induction m with
  | zero =>
    intro n k h0 h1 h2 h3
    refine loopN_end ?_ (by simp)
    rw [round, show decide (k < many) = false by simp; omega]
    simp only [Tree.den]
    rw [show (n + ((0 : Nat) : Int)) % 65536 = n by omega]
  | succ m ih =>
    intro n k h0 h1 h2 h3
    have hr := round n many k
    rw [show decide (k < many) = true by simp; omega, wrap64_id (n := k + 1) (by omega) (by omega), next_mod h0 h1] at hr
    simp only [Tree.den] at hr
    have ih' := ih ((n + 1) % 65536) (k + 1) (by omega) (by omega) (by omega) (by omega)
    refine loopN_step hr rfl (vals' := [.int .i64 ((n + 1) % 65536), .int .i64 many, .int .i64 (k + 1)]) (bs' := []) (by kernel_rfl) (by kernel_rfl) (by kernel_rfl) ih' ?_
    rw [show (n + ((m + 1 : Nat) : Int)) % 65536 = ((n + 1) % 65536 + (m : Int)) % 65536 by omega]
    kernel_rfl
theorem turn_loop : LoopOK P (loopAt Try.f7 0) turnL := by
  refine loop_ok turn_G Go.Proofs.Ytfinaphmjnajjaa.hm (Λ := loopsOf []) (LoopsOK.nil (by kernel_rfl)) _ ?_
  intro vals bs r h
  simp only [turnL, turnF] at h
  split at h
  · rename_i n many k
    rw [den_need, den_leaf] at h
    simp only [Bool.and_eq_true, decide_eq_true_eq] at h
    obtain ⟨⟨⟨⟨⟨h1, h2⟩, h3⟩, h4⟩, h5⟩, rfl⟩ := h
    refine ⟨(many - k).toNat + 1, ?_⟩
    have := turn_rounds many h5 (many - k).toNat n k h1 h2 h3 (by omega)
    rw [Int.toNat_of_nonneg (by omega)] at this
    exact this
  · simp [den_fail] at h

def turnsS : Rx.Spec := fun a b => match a, b with
  | [.int .i64 s, .int .i64 many], [] => .leaf ⟨.bool true, [], []⟩
  | _, _ => .fail
theorem turns_G : GammaOK P [(12, aliveS), (19, nextS), (21, behindS)] := .cons alive_ok (.cons next_ok (.cons behind_ok (.nil P)))
theorem turns_ok : SpecOK P 7 turnsS := by
  refine specOK_fast turns_G hm (Λ := loopsOf [(5, turnL)]) Try.func7 (by kernel_rfl) (LoopsOK.one (by kernel_rfl) turn_loop) ?_
  intro args bs r h
  unfold turnsS at h
  split at h
  · rename_i s many
    rw [den_leaf] at h; subst h
    rw [show (fFn P (specsOf [(12, aliveS), (19, nextS), (21, behindS)]) (loopsOf [(5, turnL)]) Try.f7 [.int .i64 s, .int .i64 many] []).denN = Tree.denN (Tree.ite (decide (s < 0)) (Tree.leaf { v := V.bool true, upd := [], new := [] })
  (Tree.ite (decide (s > 65535)) (Tree.leaf { v := V.bool true, upd := [], new := [] })
    (Tree.ite (decide (many < 1)) (Tree.leaf { v := V.bool true, upd := [], new := [] })
      (Tree.ite (decide (many > 3000)) (Tree.leaf { v := V.bool true, upd := [], new := [] })
        (Tree.ite (decide (0 ≤ s) && decide (s ≤ 65535) && true && decide (0 ≤ many) && decide (many ≤ 3000))
          (Tree.ite (behindB ((s + (many - 0)) % 65536) s)
            (Tree.ite (!behindB s ((s + (many - 0)) % 65536))
              (Tree.leaf
                { v := V.bool ((s + (many - 0)) % 65536 == (IntKind.i64.wrap (s + many)).tmod 65536), upd := [],
                  new := [] })
              (Tree.leaf { v := V.fls, upd := [], new := [] }))
            (Tree.leaf { v := V.fls, upd := [], new := [] }))
          Tree.fail))))) from by kernel_rfl]
    simp only [denN_ite, denN_leaf, denN_fail, decide_eq_true_eq]
    by_cases g1 : s < 0
    · rw [if_pos g1]
    by_cases g2 : s > 65535
    · rw [if_neg g1, if_pos g2]
    by_cases g3 : many < 1
    · rw [if_neg g1, if_neg g2, if_pos g3]
    by_cases g4 : many > 3000
    · rw [if_neg g1, if_neg g2, if_neg g3, if_pos g4]
    have hb : behindB ((s + (many - 0)) % 65536) s = true := by
      unfold behindB
      simp only [Bool.and_eq_true, decide_eq_true_eq]
      omega
    rw [if_neg g1, if_neg g2, if_neg g3, if_neg g4, if_pos (by simp; omega), if_pos hb, behind_asym _ _ hb, if_pos (show (!false) = true from rfl)]
    refine resB ?_
    rw [wrap64_id (by omega) (by omega), Int.tmod_eq_emod_of_nonneg (by omega)]
    simp
  · simp [den_fail] at h
end Go.Proofs.Ytfinaphmjnajjaa
