/- Layer 6: the functions of heads, by specifications. The conditions stand in the specifications. -/
import Derived.Test.YthjldfmlclpdbaaRxB
import Derived.KernelRfl
import Derived.Test.YthjldfmlclpdbaaChecked
set_option linter.unusedSimpArgs false
set_option linter.unusedVariables false
set_option linter.unnecessarySimpa false
set_option linter.unusedSectionVars false
set_option maxRecDepth 100000
set_option linter.unusedSimpArgs false
namespace Go.Proofs.Ythjldfmlclpdbaa
open Go.Rx
noncomputable abbrev P : Program := Try.prog
theorem hm : P.follows .mixedOrders = true := Try.checked.mixed


theorem resB {a b : Bool} {u : List (Option (Option Blk))} {n : List Blk} (h : a = b) : some (Res.nrm ⟨.bool a, u, n⟩) = some (Res.nrm ⟨.bool b, u, n⟩) := by rw [h]
theorem resF {b : Bool} {u : List (Option (Option Blk))} {n : List Blk} (h : b = false) : some (Res.nrm ⟨.fls, u, n⟩) = some (Res.nrm ⟨.bool b, u, n⟩) := by rw [h]; rfl
theorem resT {b : Bool} {u : List (Option (Option Blk))} {n : List Blk} (h : b = true) : some (Res.nrm ⟨.tru, u, n⟩) = some (Res.nrm ⟨.bool b, u, n⟩) := by rw [h]; rfl

/-! ### Lengths -/
def longZ (k : Int) : Int := if k = 0 ∨ k = 1 ∨ k = 8 then 44 else if k = 9 then 54 else if k = 11 then 64 else 0
def longS : Rx.Spec := fun a b => match a, b with
  | [.int .i64 k], [] => .leaf ⟨.int .i64 (longZ k), [], []⟩
  | _, _ => .fail

theorem long_ok : SpecOK P 19 longS := by
  refine specOK_fn (GammaOK.nil P) hm (Λ := loopsOf []) Try.func19 (by kernel_rfl) (LoopsOK.nil (by kernel_rfl)) ?_
  intro args bs r h
  unfold longS at h
  split at h
  · rename_i k
    rw [den_leaf] at h; subst h
    rw [show (evFn P (specsOf []) (loopsOf []) Try.f19 [V.int .i64 k] []).denN = Tree.denN (Tree.ite (decide (k < 0)) (Tree.leaf { v := V.int IntKind.i64 0, upd := [], new := [] })
  (Tree.ite (decide (k ≥ 12)) (Tree.leaf { v := V.int IntKind.i64 0, upd := [], new := [] })
    (Tree.ite (decide (0 ≤ k) && decide (k < 12))
      (Tree.ite (decide (k.toNat * 1 + 0 + 1 ≤ 12))
        (Tree.leaf
          { v := V.int IntKind.i64 ([44, 44, 0, 0, 0, 0, 0, 0, 44, 54, 0, 64].getD k.toNat 0), upd := [], new := [] })
        Tree.fail)
      Tree.fail))) from by kernel_rfl]
    simp only [denN_ite, denN_leaf, denN_fail]
    unfold longZ
    by_cases h0 : k < 0
    · rw [if_pos (by simpa using h0), if_neg (by omega), if_neg (by omega), if_neg (by omega)]
    · by_cases h1 : 12 ≤ k
      · rw [if_neg (by simpa using h0), if_pos (by simpa using h1), if_neg (by omega), if_neg (by omega), if_neg (by omega)]
      · rw [if_neg (by simpa using h0), if_neg (by simpa using h1), if_pos (by simp; omega), if_pos (by simp; omega)]
        obtain ⟨n, rfl⟩ := Int.eq_ofNat_of_zero_le (Int.not_lt.1 h0)
        have : n < 12 := by omega
        rcases n with _ | _ | _ | _ | _ | _ | _ | _ | _ | _ | _ | _ | n <;> first | rfl | omega
  · simp [den_fail] at h

theorem refLong_ok : SpecOK P 47 longS := by
  refine specOK_fn (GammaOK.nil P) hm (Λ := loopsOf []) Try.func47 (by kernel_rfl) (LoopsOK.nil (by kernel_rfl)) ?_
  intro args bs r h
  unfold longS at h
  split at h
  · rename_i k
    rw [den_leaf] at h; subst h
    rw [show (evFn P (specsOf []) (loopsOf []) Try.f47 [V.int .i64 k] []).denN = Tree.denN (Tree.ite (k == 0) (Tree.leaf { v := V.int IntKind.i64 44, upd := [], new := [] })
  (Tree.ite (k == 1) (Tree.leaf { v := V.int IntKind.i64 44, upd := [], new := [] })
    (Tree.ite (k == 8) (Tree.leaf { v := V.int IntKind.i64 44, upd := [], new := [] })
      (Tree.ite (k == 9) (Tree.leaf { v := V.int IntKind.i64 54, upd := [], new := [] })
        (Tree.ite (k == 11) (Tree.leaf { v := V.int IntKind.i64 64, upd := [], new := [] })
          (Tree.leaf { v := V.int IntKind.i64 0, upd := [], new := [] })))))) from by kernel_rfl]
    simp only [denN_ite, denN_leaf, denN_fail, beq_iff_eq]
    unfold longZ
    by_cases h0 : k = 0
    · simp [h0]
    by_cases h1 : k = 1
    · simp [h1]
    by_cases h2 : k = 8
    · simp [h2]
    simp only [h0, h1, h2, or_self, if_false]
    split
    · rfl
    · split <;> rfl
  · simp [den_fail] at h

/-! ### Flags -/
def inI64 (n : Int) : Bool := decide (-9223372036854775808 ≤ n) && decide (n ≤ 9223372036854775807)
def flagsB (k f : Int) : Bool := if k = 0 then f == 0 || f == 512 else if k = 11 then decide (0 ≤ f) && decide (f ≤ 63) else f == 0
def flagsS : Rx.Spec := fun a b => match a, b with
  | [.int .i64 k, .int .i64 f], [] => .need (inI64 f) (.leaf ⟨.bool (flagsB k f), [], []⟩)
  | _, _ => .fail

theorem flagged_ok : SpecOK P 50 flagsS := by
  refine specOK_fn (GammaOK.nil P) hm (Λ := loopsOf []) Try.func50 (by kernel_rfl) (LoopsOK.nil (by kernel_rfl)) ?_
  intro args bs r h
  unfold flagsS at h
  split at h
  · rename_i k f
    rw [den_need, den_leaf] at h
    obtain ⟨hf, rfl⟩ := h
    simp only [inI64, Bool.and_eq_true, decide_eq_true_eq] at hf
    rw [show (evFn P (specsOf []) (loopsOf []) Try.f50 [V.int .i64 k, V.int .i64 f] []).denN = Tree.denN (Tree.ite (k == 0) (Tree.leaf { v := V.bool (bAndNot IntKind.i64 f 512 == 0), upd := [], new := [] })
  (Tree.ite (k == 11) (Tree.leaf { v := V.bool (bAndNot IntKind.i64 f 63 == 0), upd := [], new := [] })
    (Tree.leaf { v := V.bool (f == 0), upd := [], new := [] }))) from by kernel_rfl]
    simp only [denN_ite, denN_leaf, denN_fail, beq_iff_eq]
    have e1 : (bAndNot .i64 f 512 == 0) = (f == 0 || f == 512) := andNot_bit f 9 (by omega) hf.1 hf.2
    have e2 : (bAndNot .i64 f 63 == 0) = (decide (0 ≤ f) && decide (f ≤ 63)) := andNot_low f 6 (by omega) hf.1 hf.2
    rw [e1, e2]
    unfold flagsB
    split
    · rfl
    · split <;> rfl
  · simp [den_fail] at h

theorem refFlags_ok : SpecOK P 54 flagsS := by
  refine specOK_fn (GammaOK.nil P) hm (Λ := loopsOf []) Try.func54 (by kernel_rfl) (LoopsOK.nil (by kernel_rfl)) ?_
  intro args bs r h
  unfold flagsS at h
  split at h
  · rename_i k f
    rw [den_need, den_leaf] at h
    obtain ⟨hf, rfl⟩ := h
    rw [show (evFn P (specsOf []) (loopsOf []) Try.f54 [V.int .i64 k, V.int .i64 f] []).denN = Tree.denN (Tree.ite (k == 0)
  (Tree.ite (f == 0) (Tree.leaf { v := V.tru, upd := [], new := [] })
    (Tree.leaf { v := V.bool (f == 512), upd := [], new := [] }))
  (Tree.ite (k == 11)
    (Tree.ite (decide (f ≥ 0)) (Tree.leaf { v := V.bool (decide (f ≤ 63)), upd := [], new := [] })
      (Tree.leaf { v := V.fls, upd := [], new := [] }))
    (Tree.leaf { v := V.bool (f == 0), upd := [], new := [] }))) from by kernel_rfl]
    simp only [denN_ite, denN_leaf, denN_fail, beq_iff_eq, decide_eq_true_eq]
    unfold flagsB
    split
    · split
      · rename_i h; simp [h, Res.nrm, nrm]
      · rename_i h; simp [h, Res.nrm, nrm]
    · split
      · split
        · rename_i h; simp [h, Res.nrm, nrm]
        · rename_i h; simp [Res.nrm, nrm]; omega
      · rfl
  · simp [den_fail] at h

/-! ### Ports, numbers -/
def sourcedB (n : Int) : Bool := decide (1 ≤ n) && decide (n < 65535)
def sourcedS : Rx.Spec := fun a b => match a, b with
  | [.agg [_, _, _, _, _, _, _, _, .int .i64 n]], [] => .leaf ⟨.bool (sourcedB n), [], []⟩
  | _, _ => .fail

theorem sourced_ok : SpecOK P 51 sourcedS := by
  refine specOK_fn (GammaOK.nil P) hm (Λ := loopsOf []) Try.func51 (by kernel_rfl) (LoopsOK.nil (by kernel_rfl)) ?_
  intro args bs r h
  unfold sourcedS at h
  split at h
  · rename_i a1 a2 a3 a4 a5 a6 a7 a8 n
    rw [den_leaf] at h; subst h
    rw [show (evFn P (specsOf []) (loopsOf []) Try.f51 [.agg [a1, a2, a3, a4, a5, a6, a7, a8, .int .i64 n]] []).denN = Tree.denN (Tree.ite (decide (n ≥ 1)) (Tree.leaf { v := V.bool (decide (n < 65535)), upd := [], new := [] })
  (Tree.leaf { v := V.fls, upd := [], new := [] })) from by kernel_rfl]
    simp only [denN_ite, denN_leaf, denN_fail, decide_eq_true_eq]
    unfold sourcedB
    split
    · rename_i h; simp [Res.nrm, nrm]; omega
    · rename_i h; simp [Res.nrm, nrm]; omega
  · simp [den_fail] at h

def nextZ (s : Int) : Int := if 0 ≤ s ∧ s < 65535 then s + 1 else 0
def nextS : Rx.Spec := fun a b => match a, b with
  | [.int .i64 s], [] => .leaf ⟨.int .i64 (nextZ s), [], []⟩
  | _, _ => .fail

def behindB (s t : Int) : Bool := decide (0 ≤ s) && decide (s ≤ 65535) && decide (0 ≤ t) && decide (t ≤ 65535) && decide (1 ≤ (s - t) % 65536) && decide ((s - t) % 65536 ≤ 32767)
def behindS : Rx.Spec := fun a b => match a, b with
  | [.int .i64 s, .int .i64 t], [] => .leaf ⟨.bool (behindB s t), [], []⟩
  | _, _ => .fail

end Go.Proofs.Ythjldfmlclpdbaa

set_option maxRecDepth 100000
set_option linter.unusedSimpArgs false
namespace Go.Proofs.Ythjldfmlclpdbaa
open Go.Rx

/-! ### Bytes of a number, the highest first -/
def byteAt (n : Int) (k : Nat) : Int := n / 2 ^ (8 * k) % 256
def beBytes (n : Int) : Nat → List Int
  | 0 => []
  | k + 1 => byteAt n k :: beBytes n k

theorem beBytes_length (n : Int) : ∀ k, (beBytes n k).length = k
  | 0 => rfl
  | k + 1 => by simp [beBytes, beBytes_length n k]

/-! ### The inner loop of 'laid' -/
def innerF (vals : List V) (bs : List Blk) : Tree LRes := match vals, bs with
  | [.nils, .ptr 0 0 0 0, .int .i64 k], [.cells [.int .i64 n, .int .i64 _]] =>
    .need (decide (-1 ≤ k) && decide (k ≤ 7)) (.ite (decide (k < 0)) (.leaf ⟨.exit 2, [.nils], [none], []⟩)
      (.leaf ⟨.exit 2, [.sl 1 0 0 1 (k + 1).toNat none], [none], [.ints .u8 (beBytes n (k + 1).toNat)]⟩))
  | [.sl 0 0 0 1 m none, .ptr 1 0 0 0, .int .i64 k], [.ints .u8 xs, .cells [.int .i64 n, .int .i64 _]] =>
    .need (decide (-1 ≤ k) && decide (k ≤ 7) && decide (m = xs.length) && decide (m ≤ 140737488355320)) (.ite (decide (k < 0)) (.leaf ⟨.exit 2, [.sl 0 0 0 1 m none], [none, none], []⟩)
      (.leaf ⟨.exit 2, [.sl 2 0 0 1 (m + (k + 1).toNat) none], [some none, none], [.ints .u8 (xs ++ beBytes n (k + 1).toNat)]⟩))
  | _, _ => .fail
def innerL : LSpec := ⟨32, [0, 6, 7], [0], innerF⟩

theorem byte_eq (n : Int) (j : Nat) (hj : j ≤ 7) : IntKind.u8.wrap (n.fdiv (2 ^ min (IntKind.i64.wrap (8 * (j : Int))).toNat 64)) = byteAt n j := by
  rw [wrap64_id (by omega) (by omega)]
  have : min (8 * (j : Int)).toNat 64 = 8 * j := by omega
  rw [this, IntKind.wrap_u8]
  unfold byteAt
  congr 1
  rw [Int.fdiv_eq_ediv_of_nonneg]
  exact Int.le_of_lt (Int.pow_pos (by omega))

theorem innerB (n l : Int) : ∀ (j : Nat) (xs : List Int), j ≤ 8 → xs.length + j ≤ 140737488355328 →
    (loopN P (specsOf []) (loopsOf []) 32 [0, 6, 7] [0] (loopAt Try.f45 1) (j + 1) [.sl 0 0 0 1 xs.length none, .ptr 1 0 0 0, .int .i64 ((j : Int) - 1)] [.ints .u8 xs, .cells [.int .i64 n, .int .i64 l]]).den =
    some (if j = 0 then ⟨.exit 2, [.sl 0 0 0 1 xs.length none], [none, none], []⟩ else ⟨.exit 2, [.sl 2 0 0 1 (xs.length + j) none], [some none, none], [.ints .u8 (xs ++ beBytes n j)]⟩) := by
  have round : ∀ (m : Nat) (k : Int) (xs : List Int), (evRound P (specsOf []) (loopsOf []) 32 [0, 6, 7] [0] (loopAt Try.f45 1) [.sl 0 0 0 1 m none, .ptr 1 0 0 0, .int .i64 k] [.ints .u8 xs, .cells [.int .i64 n, .int .i64 l]]).den =
      Tree.den (Tree.ite (decide (k ≥ 0))
  (Tree.ite (decide (0 ≤ IntKind.i64.wrap (8 * k)))
    (Tree.ite (decide (0 + m ≤ xs.length) && true)
      (Tree.ite
        (decide
          ((List.take m (List.drop 0 xs) ++
                  [IntKind.u8.wrap (n.fdiv (2 ^ min (IntKind.i64.wrap (8 * k)).toNat 64))]).length *
              1 ≤
            140737488355328))
        (Tree.leaf
          { e := Ex.nrm,
            vs :=
              [V.sl 2 0 0 1
                  (List.take m (List.drop 0 xs) ++
                      [IntKind.u8.wrap (n.fdiv (2 ^ min (IntKind.i64.wrap (8 * k)).toNat 64))]).length
                  none,
                V.ptr 1 0 0 0, V.int IntKind.i64 (IntKind.i64.wrap (k - 1))],
            upd := [some none, none],
            new :=
              [Body.ints IntKind.u8
                  (List.take m (List.drop 0 xs) ++
                    [IntKind.u8.wrap (n.fdiv (2 ^ min (IntKind.i64.wrap (8 * k)).toNat 64))])] })
        Tree.fail)
      Tree.fail)
    Tree.fail)
  (Tree.leaf { e := Ex.exit 2, vs := [V.sl 0 0 0 1 m none], upd := [none, none], new := [] })) := by
    intro m k xs
    kernel_rfl
  intro j
  induction j with
  | zero =>
    intro xs _ _
    rw [if_pos rfl]
    refine loopN_end ?_ (by simp)
    rw [round]
    rfl
  | succ j ih =>
    intro xs hj hl
    rw [if_neg (by omega)]
    have hk : (((j + 1 : Nat) : Int) - 1) = (j : Int) := by omega
    rw [hk]
    have hr := round xs.length (j : Int) xs
    rw [byte_eq n j (by omega), wrap64_id (n := 8 * (j : Int)) (by omega) (by omega), wrap64_id (n := (j : Int) - 1) (by omega) (by omega)] at hr
    simp only [List.drop_zero, List.take_length, List.length_append, List.length_cons, List.length_nil, Nat.zero_add, Nat.mul_one, Tree.den, Nat.le_refl, decide_true, Bool.and_true] at hr
    rw [show decide ((j : Int) ≥ 0) = true by simp, show decide (0 ≤ 8 * (j : Int)) = true by simp; omega, show decide (xs.length + 1 ≤ 140737488355328) = true by simp; omega] at hr
    simp only at hr
    have ih' := ih (xs ++ [byteAt n j]) (by omega) (by simp; omega)
    simp only [List.length_append, List.length_cons, List.length_nil, Nat.zero_add] at ih'
    refine loopN_step hr rfl (vals' := [.sl 0 0 0 1 (xs.length + 1) none, .ptr 1 0 0 0, .int .i64 ((j : Int) - 1)]) (bs' := [.ints .u8 (xs ++ [byteAt n j]), .cells [.int .i64 n, .int .i64 l]]) (by kernel_rfl) (by kernel_rfl) (by kernel_rfl) ih' ?_
    by_cases h0 : j = 0
    · subst h0
      rw [if_pos rfl]
      kernel_rfl
    · rw [if_neg h0]
      rw [show xs ++ beBytes n (j + 1) = xs ++ [byteAt n j] ++ beBytes n j by simp [beBytes], show xs.length + (j + 1) = xs.length + 1 + j by omega]
      kernel_rfl

theorem innerA (n l : Int) (j : Nat) (hj : j ≤ 8) :
    (loopN P (specsOf []) (loopsOf []) 32 [0, 6, 7] [0] (loopAt Try.f45 1) (j + 1) [.nils, .ptr 0 0 0 0, .int .i64 ((j : Int) - 1)] [.cells [.int .i64 n, .int .i64 l]]).den =
    some (if j = 0 then ⟨.exit 2, [.nils], [none], []⟩ else ⟨.exit 2, [.sl 1 0 0 1 j none], [none], [.ints .u8 (beBytes n j)]⟩) := by
  have round : ∀ (k : Int), (evRound P (specsOf []) (loopsOf []) 32 [0, 6, 7] [0] (loopAt Try.f45 1) [.nils, .ptr 0 0 0 0, .int .i64 k] [.cells [.int .i64 n, .int .i64 l]]).den =
      Tree.den (Tree.ite (decide (k ≥ 0))
  (Tree.ite (decide (0 ≤ IntKind.i64.wrap (8 * k)))
    (Tree.leaf
      { e := Ex.nrm, vs := [V.sl 1 0 0 1 1 none, V.ptr 0 0 0 0, V.int IntKind.i64 (IntKind.i64.wrap (k - 1))],
        upd := [none],
        new := [Body.ints IntKind.u8 [IntKind.u8.wrap (n.fdiv (2 ^ min (IntKind.i64.wrap (8 * k)).toNat 64))]] })
    Tree.fail)
  (Tree.leaf { e := Ex.exit 2, vs := [V.nils], upd := [none], new := [] })) := by
    intro k
    kernel_rfl
  cases j with
  | zero =>
    rw [if_pos rfl]
    refine loopN_end ?_ (by simp)
    rw [round]
    rfl
  | succ j =>
    rw [if_neg (by omega)]
    have hk : (((j + 1 : Nat) : Int) - 1) = (j : Int) := by omega
    rw [hk]
    have hr := round (j : Int)
    rw [byte_eq n j (by omega), wrap64_id (n := 8 * (j : Int)) (by omega) (by omega), wrap64_id (n := (j : Int) - 1) (by omega) (by omega)] at hr
    simp only [Tree.den] at hr
    rw [show decide ((j : Int) ≥ 0) = true by simp, show decide (0 ≤ 8 * (j : Int)) = true by simp; omega] at hr
    simp only at hr
    have ih' := innerB n l j [byteAt n j] (by omega) (by simp; omega)
    refine loopN_step hr rfl (vals' := [.sl 0 0 0 1 1 none, .ptr 1 0 0 0, .int .i64 ((j : Int) - 1)]) (bs' := [.ints .u8 [byteAt n j], .cells [.int .i64 n, .int .i64 l]]) (by kernel_rfl) (by kernel_rfl) (by kernel_rfl) ih' ?_
    by_cases h0 : j = 0
    · subst h0
      rw [if_pos rfl]
      kernel_rfl
    · rw [if_neg h0]
      rw [show beBytes n (j + 1) = [byteAt n j] ++ beBytes n j by simp [beBytes], show j + 1 = [byteAt n j].length + j by simp; omega]
      kernel_rfl

theorem inner_ok : LoopOK P (loopAt Try.f45 1) innerL := by
  refine loop_ok (GammaOK.nil P) hm (Λ := loopsOf []) (LoopsOK.nil (by kernel_rfl)) _ ?_
  intro vals bs r h
  simp only [innerL, innerF] at h
  split at h
  · rename_i k n l
    rw [den_need, den_ite] at h
    simp only [Bool.and_eq_true, decide_eq_true_eq, decide_eq_false_iff_not, den_leaf] at h
    obtain ⟨⟨h1, h2⟩, h3⟩ := h
    refine ⟨(k + 1).toNat + 1, ?_⟩
    have := innerA n l (k + 1).toNat (by omega)
    rw [show (((k + 1).toNat : Int) - 1) = k by omega] at this
    refine this.trans ?_
    rcases h3 with ⟨h3, rfl⟩ | ⟨h3, rfl⟩
    · rw [if_pos (by omega)]
    · rw [if_neg (by omega)]
  · rename_i m k xs n l
    rw [den_need, den_ite] at h
    simp only [Bool.and_eq_true, decide_eq_true_eq, decide_eq_false_iff_not, den_leaf] at h
    obtain ⟨⟨⟨⟨h1, h2⟩, rfl⟩, h4⟩, h3⟩ := h
    refine ⟨(k + 1).toNat + 1, ?_⟩
    have := innerB n l (k + 1).toNat xs (by omega) (by omega)
    rw [show (((k + 1).toNat : Int) - 1) = k by omega] at this
    refine this.trans ?_
    rcases h3 with ⟨h3, rfl⟩ | ⟨h3, rfl⟩
    · rw [if_pos (by omega)]
    · rw [if_neg (by omega)]
  · simp [den_fail] at h
end Go.Proofs.Ythjldfmlclpdbaa

set_option maxRecDepth 100000
set_option linter.unusedSimpArgs false
namespace Go.Proofs.Ythjldfmlclpdbaa
open Go.Rx

noncomputable def laidL : Nat → Option LSpec := loopsOf [(2, fUnroll P (specsOf []) (loopsOf [(5, innerL)]) Try.f45 (loopAt Try.f45 0) 10)]
noncomputable def laidS : Rx.Spec := fFn P (specsOf []) laidL Try.f45

theorem laid_ok : SpecOK P 45 laidS := by
  refine specOK_fast (GammaOK.nil P) hm (Λ := laidL) Try.func45 (by kernel_rfl) ?_ fun args bs r h => denN_of h
  refine LoopsOK.outer (by kernel_rfl) (by kernel_rfl) ?_
  refine fUnroll_ok (GammaOK.nil P) hm (LoopsOK.inner (by kernel_rfl) (d := loopAt Try.f45 1) (by kernel_rfl) inner_ok) _ _

/-! ### Which heads may be -/
structure Hd where
  ty : Int
  dom : Int
  fl : Int
  co : Int
  c : List Int
  num : Int
  se : Int
  lo : Int

def rightB (ty dom fl n se lo : Int) : Bool :=
  decide (0 < longZ ty) && decide (0 ≤ dom) && decide (dom ≤ 255) && flagsB ty fl && sourcedB n && decide (0 ≤ se) && decide (se ≤ 65535) && decide (-128 ≤ lo) && decide (lo ≤ 127)
def rightS : Rx.Spec := fun a b => match a, b with
  | [.agg [.int .i64 ty, .int .i64 dom, .int .i64 fl, .int .i64 _, .int .u8 _, .int .u8 _, .int .u8 _, .int .u8 _, .int .u8 _, .int .u8 _, .int .u8 _, .int .u8 _, .int .i64 n, .int .i64 se, .int .i64 lo]], [] => .need (inI64 fl) (.leaf ⟨.bool (rightB ty dom fl n se lo), [], []⟩)
  | _, _ => .fail

theorem right_G : GammaOK P [(19, longS), (50, flagsS), (51, sourcedS)] := .cons long_ok (.cons flagged_ok (.cons sourced_ok (.nil P)))

theorem right_ok : SpecOK P 28 rightS := by
  refine specOK_fast right_G hm (Λ := loopsOf []) Try.func28 (by kernel_rfl) (LoopsOK.nil (by kernel_rfl)) ?_
  intro args bs r h
  unfold rightS at h
  split at h
  · rename_i ty dom fl co a1 a2 a3 a4 a5 a6 a7 a8 n se lo
    rw [den_need, den_leaf] at h
    obtain ⟨hf, rfl⟩ := h
    rw [show (fFn P (specsOf [(19, longS), (50, flagsS), (51, sourcedS)]) (loopsOf []) Try.f28 [.agg [.int .i64 ty, .int .i64 dom, .int .i64 fl, .int .i64 co, .int .u8 a1, .int .u8 a2, .int .u8 a3, .int .u8 a4, .int .u8 a5, .int .u8 a6, .int .u8 a7, .int .u8 a8, .int .i64 n, .int .i64 se, .int .i64 lo]] []).denN = Tree.denN (Tree.ite (decide (longZ ty > 0))
  (Tree.ite (decide (dom ≥ 0))
    (Tree.ite (decide (dom ≤ 255))
      (Tree.ite (inI64 fl)
        (Tree.ite (flagsB ty fl)
          (Tree.ite (sourcedB n)
            (Tree.ite (decide (se ≥ 0))
              (Tree.ite (decide (se ≤ 65535))
                (Tree.ite (decide (lo ≥ -128)) (Tree.leaf { v := V.bool (decide (lo ≤ 127)), upd := [], new := [] })
                  (Tree.leaf { v := V.fls, upd := [], new := [] }))
                (Tree.leaf { v := V.fls, upd := [], new := [] }))
              (Tree.leaf { v := V.fls, upd := [], new := [] }))
            (Tree.leaf { v := V.fls, upd := [], new := [] }))
          (Tree.leaf { v := V.fls, upd := [], new := [] }))
        Tree.fail)
      (Tree.leaf { v := V.fls, upd := [], new := [] }))
    (Tree.leaf { v := V.fls, upd := [], new := [] }))
  (Tree.leaf { v := V.fls, upd := [], new := [] })) from by kernel_rfl]
    simp only [denN_ite, denN_leaf, denN_fail, hf, if_true]
    unfold rightB
    by_cases h1 : 0 < longZ ty
    · by_cases h2 : 0 ≤ dom
      · by_cases h3 : dom ≤ 255
        · cases h4 : flagsB ty fl
          · simp [h1, h2, h3, Res.nrm, nrm]
          · cases h5 : sourcedB n
            · simp [h1, h2, h3, Res.nrm, nrm]
            · by_cases h6 : 0 ≤ se
              · by_cases h7 : se ≤ 65535
                · by_cases h8 : -128 ≤ lo
                  · simp [h1, h2, h3, h6, h7, h8, Res.nrm, nrm]
                  · simp [h1, h2, h3, h6, h7, h8, Res.nrm, nrm]
                · simp [h1, h2, h3, h6, h7, Res.nrm, nrm]
              · simp [h1, h2, h3, h6, Res.nrm, nrm]
        · simp [h1, h2, h3, Res.nrm, nrm]
      · simp [h1, h2, Res.nrm, nrm]
    · simp [h1, Res.nrm, nrm]
  · simp [den_fail] at h

theorem refRight_G : GammaOK P [(47, longS), (54, flagsS)] := .cons refLong_ok (.cons refFlags_ok (.nil P))
theorem longZ_nonneg (k : Int) : 0 ≤ longZ k := by unfold longZ; split <;> (try split) <;> (try split) <;> omega

theorem refRight_ok : SpecOK P 31 rightS := by
  refine specOK_fast refRight_G hm (Λ := loopsOf []) Try.func31 (by kernel_rfl) (LoopsOK.nil (by kernel_rfl)) ?_
  intro args bs r h
  unfold rightS at h
  split at h
  · rename_i ty dom fl co a1 a2 a3 a4 a5 a6 a7 a8 n se lo
    rw [den_need, den_leaf] at h
    obtain ⟨hf, rfl⟩ := h
    rw [show (fFn P (specsOf [(47, longS), (54, flagsS)]) (loopsOf []) Try.f31 [.agg [.int .i64 ty, .int .i64 dom, .int .i64 fl, .int .i64 co, .int .u8 a1, .int .u8 a2, .int .u8 a3, .int .u8 a4, .int .u8 a5, .int .u8 a6, .int .u8 a7, .int .u8 a8, .int .i64 n, .int .i64 se, .int .i64 lo]] []).denN = Tree.denN (Tree.ite (longZ ty == 0) (Tree.leaf { v := V.fls, upd := [], new := [] })
  (Tree.ite (decide (dom < 0)) (Tree.leaf { v := V.fls, upd := [], new := [] })
    (Tree.ite (decide (dom > 255)) (Tree.leaf { v := V.fls, upd := [], new := [] })
      (Tree.ite (inI64 fl)
        (Tree.ite (!flagsB ty fl) (Tree.leaf { v := V.fls, upd := [], new := [] })
          (Tree.ite (decide (n < 1)) (Tree.leaf { v := V.fls, upd := [], new := [] })
            (Tree.ite (decide (n > 65534)) (Tree.leaf { v := V.fls, upd := [], new := [] })
              (Tree.ite (decide (se < 0)) (Tree.leaf { v := V.fls, upd := [], new := [] })
                (Tree.ite (decide (se > 65535)) (Tree.leaf { v := V.fls, upd := [], new := [] })
                  (Tree.ite (decide (lo ≥ -128)) (Tree.leaf { v := V.bool (decide (lo ≤ 127)), upd := [], new := [] })
                    (Tree.leaf { v := V.fls, upd := [], new := [] })))))))
        Tree.fail)))) from by kernel_rfl]
    simp only [denN_ite, denN_leaf, denN_fail, hf, if_true]
    have hl := longZ_nonneg ty
    unfold rightB sourcedB
    by_cases h1 : 0 < longZ ty
    · have h1' : (longZ ty == 0) = false := by simp; omega
      by_cases h2 : 0 ≤ dom
      · by_cases h3 : dom ≤ 255
        · cases h4 : flagsB ty fl
          · simp [h1, h1', h2, h3, Res.nrm, nrm]
          · by_cases h5 : 1 ≤ n
            · by_cases h5' : n < 65535
              · by_cases h6 : 0 ≤ se
                · by_cases h7 : se ≤ 65535
                  · have a1 : ¬ dom < 0 := by omega
                    have a2 : ¬ dom > 255 := by omega
                    have a3 : ¬ n < 1 := by omega
                    have a4 : ¬ n > 65534 := by omega
                    have a5 : ¬ se < 0 := by omega
                    have a6 : ¬ se > 65535 := by omega
                    by_cases h8 : -128 ≤ lo
                    · simp [h1, h1', h2, h3, h5, h5', h6, h7, h8, a1, a2, a3, a4, a5, a6, Res.nrm, nrm]
                    · simp [h1, h1', h2, h3, h5, h5', h6, h7, h8, a1, a2, a3, a4, a5, a6, Res.nrm, nrm]
                  · have a1 : ¬ dom < 0 := by omega
                    have a2 : ¬ dom > 255 := by omega
                    have a3 : ¬ n < 1 := by omega
                    have a4 : ¬ n > 65534 := by omega
                    have a6 : se > 65535 := by omega
                    simp [h1, h1', h2, h3, h5, h5', h6, h7, a1, a2, a3, a4, a6, Res.nrm, nrm]
                · have a1 : ¬ dom < 0 := by omega
                  have a2 : ¬ dom > 255 := by omega
                  have a3 : ¬ n < 1 := by omega
                  have a4 : ¬ n > 65534 := by omega
                  have a5 : se < 0 := by omega
                  simp [h1, h1', h2, h3, h5, h5', h6, a1, a2, a3, a4, a5, Res.nrm, nrm]
              · have a1 : ¬ dom < 0 := by omega
                have a2 : ¬ dom > 255 := by omega
                have a3 : ¬ n < 1 := by omega
                have a4 : n > 65534 := by omega
                simp [h1, h1', h2, h3, h5, h5', a1, a2, a3, a4, Res.nrm, nrm]
            · have a1 : ¬ dom < 0 := by omega
              have a2 : ¬ dom > 255 := by omega
              have a3 : n < 1 := by omega
              simp [h1, h1', h2, h3, h5, a1, a2, a3, Res.nrm, nrm]
        · have a2 : dom > 255 := by omega
          simp [h1, h1', h2, h3, a2, Res.nrm, nrm]
      · have a2 : dom < 0 := by omega
        simp [h1, h1', h2, a2, Res.nrm, nrm]
    · have h1' : (longZ ty == 0) = true := by simp; omega
      simp [h1, h1', Res.nrm, nrm]
  · simp [den_fail] at h

/-! ### Ports -/
def byteZ (n : Int) : Bool := decide (0 ≤ n) && decide (n ≤ 255)
def putS : Rx.Spec := fun a b => match a, b with
  | [.agg [.int .u8 c0, .int .u8 c1, .int .u8 c2, .int .u8 c3, .int .u8 c4, .int .u8 c5, .int .u8 c6, .int .u8 c7, .int .i64 n]], [] =>
    .need (decide (0 ≤ n) && decide (n ≤ 65535)) (.leaf ⟨.tup [.sl 0 0 0 1 10 none, .tru], [], [.ints .u8 [c0, c1, c2, c3, c4, c5, c6, c7, n / 256, n % 256]]⟩)
  | _, _ => .fail

theorem put_ok : SpecOK P 22 putS := by
  refine specOK_fast (GammaOK.nil P) hm (Λ := loopsOf []) Try.func22 (by kernel_rfl) (LoopsOK.nil (by kernel_rfl)) ?_
  intro args bs r h
  unfold putS at h
  split at h
  · rename_i a b c d e f g h' n
    rw [den_need, den_leaf] at h
    obtain ⟨hf, rfl⟩ := h
    simp only [Bool.and_eq_true, decide_eq_true_eq] at hf
    rw [show (fFn P (specsOf []) (loopsOf []) Try.f22 [.agg [.int .u8 a, .int .u8 b, .int .u8 c, .int .u8 d, .int .u8 e, .int .u8 f, .int .u8 g, .int .u8 h', .int .i64 n]] []).denN = Tree.denN (Tree.ite (decide (n < 0))
  (Tree.leaf { v := V.tup [V.sl 0 0 0 1 0 none, V.fls], upd := [], new := [Body.ints IntKind.u8 []] })
  (Tree.ite (decide (n > 65535))
    (Tree.leaf { v := V.tup [V.sl 0 0 0 1 0 none, V.fls], upd := [], new := [Body.ints IntKind.u8 []] })
    (Tree.leaf
      { v := V.tup [V.sl 0 0 0 1 10 none, V.tru], upd := [],
        new := [Body.ints IntKind.u8 [a, b, c, d, e, f, g, h', IntKind.u8.wrap (n.fdiv 256), IntKind.u8.wrap n]] }))) from by kernel_rfl]
    simp only [denN_ite, denN_leaf, denN_fail, decide_eq_true_eq]
    rw [if_neg (by omega), if_neg (by omega), IntKind.wrap_u8, IntKind.wrap_u8, Int.fdiv_eq_ediv_of_nonneg _ (by omega), Int.emod_eq_of_lt (a := n / 256) (by omega) (by omega)]
  · simp [den_fail] at h

noncomputable def refPutL : Nat → Option LSpec := loopsOf [(firstRegion (loopAt Try.f25 0), fUnroll P (specsOf []) (loopsOf []) Try.f25 (loopAt Try.f25 0) 9)]

theorem refPut_ok : SpecOK P 25 putS := by
  refine specOK_fast (GammaOK.nil P) hm (Λ := refPutL) Try.func25 (by kernel_rfl) (LoopsOK.one (by kernel_rfl) (fUnroll_ok (GammaOK.nil P) hm (LoopsOK.nil (by kernel_rfl)) _ _)) ?_
  intro args bs r h
  unfold putS at h
  split at h
  · rename_i a b c d e f g h' n
    rw [den_need, den_leaf] at h
    obtain ⟨hf, rfl⟩ := h
    simp only [Bool.and_eq_true, decide_eq_true_eq] at hf
    rw [show (fFn P (specsOf []) refPutL Try.f25 [.agg [.int .u8 a, .int .u8 b, .int .u8 c, .int .u8 d, .int .u8 e, .int .u8 f, .int .u8 g, .int .u8 h', .int .i64 n]] []).denN = Tree.denN (Tree.ite (decide (n < 0))
  (Tree.leaf { v := V.tup [V.sl 0 0 0 1 0 none, V.fls], upd := [], new := [Body.ints IntKind.u8 []] })
  (Tree.ite (decide (n > 65535))
    (Tree.leaf { v := V.tup [V.sl 0 0 0 1 0 none, V.fls], upd := [], new := [Body.ints IntKind.u8 []] })
    (Tree.leaf
      { v := V.tup [V.sl 0 0 0 1 10 none, V.tru], upd := [],
        new :=
          [Body.ints IntKind.u8
              [a, b, c, d, e, f, g, h', IntKind.u8.wrap (IntKind.i64.wrap (n.tdiv 256)),
                IntKind.u8.wrap (n.tmod 256)]] }))) from by kernel_rfl]
    simp only [denN_ite, denN_leaf, denN_fail, decide_eq_true_eq]
    rw [if_neg (by omega), if_neg (by omega), Int.tdiv_eq_ediv_of_nonneg (by omega), Int.tmod_eq_emod_of_nonneg (by omega), wrap64_id (by omega) (by omega), IntKind.wrap_u8, IntKind.wrap_u8, Int.emod_eq_of_lt (a := n / 256) (by omega) (by omega), Int.emod_emod_of_dvd _ (by omega)]
  · simp [den_fail] at h
end Go.Proofs.Ythjldfmlclpdbaa

set_option maxRecDepth 100000
set_option linter.unusedSimpArgs false
namespace Go.Proofs.Ythjldfmlclpdbaa
open Go.Rx

theorem ba_ext {a b : ByteArray} (h : a.data = b.data) : a = b := by cases a; cases b; simp_all
theorem bytesOf_append (xs ys : List Int) : bytesOf (xs ++ ys) = bytesOf xs ++ bytesOf ys := by
  apply ba_ext
  simp [bytesOf, ByteArray.data_append]
theorem numsOf_append (a b : ByteArray) : numsOf (a ++ b) = numsOf a ++ numsOf b := by simp [numsOf, ByteArray.data_append]
theorem numsOf_bytesOf (xs : List Int) (h : ∀ x ∈ xs, 0 ≤ x ∧ x < 256) : numsOf (bytesOf xs) = xs := by
  unfold numsOf bytesOf
  simp only [List.map_map]
  induction xs with
  | nil => rfl
  | cons x xs ih =>
    have hx := h x (by simp)
    have := ih fun y hy => h y (by simp [hy])
    simp only [List.map_cons, Function.comp_apply, this, List.cons.injEq, and_true]
    simp [UInt8.toNat_ofNat']
    omega
theorem byteAt_range (n : Int) (k : Nat) : 0 ≤ byteAt n k ∧ byteAt n k < 256 := by unfold byteAt; omega
theorem beBytes_range (n : Int) : ∀ (k : Nat), ∀ x ∈ beBytes n k, 0 ≤ x ∧ x < 256
  | 0, x, h => by simp [beBytes] at h
  | k + 1, x, h => by
    simp only [beBytes, List.mem_cons] at h
    rcases h with rfl | h
    · exact byteAt_range n k
    · exact beBytes_range n k x h

def twoS : Rx.Spec := fun a b => match a, b with
  | [.int .i64 n], [] => .need (decide (0 ≤ n) && decide (n ≤ 65535)) (.leaf ⟨.str (bytesOf (beBytes n 2)), [], []⟩)
  | _, _ => .fail
theorem two_ok : SpecOK P 46 twoS := by
  refine specOK_fast (GammaOK.nil P) hm (Λ := loopsOf []) Try.func46 (by kernel_rfl) (LoopsOK.nil (by kernel_rfl)) ?_
  intro args bs r h
  unfold twoS at h
  split at h
  · rename_i n
    rw [den_need, den_leaf] at h
    obtain ⟨hf, rfl⟩ := h
    simp only [Bool.and_eq_true, decide_eq_true_eq] at hf
    rw [show (fFn P (specsOf []) (loopsOf []) Try.f46 [.int .i64 n] []).denN = Tree.denN (Tree.leaf
  { v := V.str (bytesOf [IntKind.u8.wrap (IntKind.i64.wrap (n.tdiv 256)), IntKind.u8.wrap (n.tmod 256)]), upd := [],
    new := [] }) from by kernel_rfl]
    rw [denN_leaf, Int.tdiv_eq_ediv_of_nonneg (by omega), Int.tmod_eq_emod_of_nonneg (by omega), wrap64_id (by omega) (by omega), IntKind.wrap_u8, IntKind.wrap_u8, Int.emod_emod_of_dvd _ (by omega)]
    simp only [beBytes, byteAt]
    simp
  · simp [den_fail] at h

noncomputable def eightL : Nat → Option LSpec := loopsOf [(firstRegion (loopAt Try.f48 0), fUnroll P (specsOf []) (loopsOf []) Try.f48 (loopAt Try.f48 0) 9)]
def eightS : Rx.Spec := fun a b => match a, b with
  | [.int .i64 n], [] => .leaf ⟨.str (bytesOf (beBytes n 8)), [], []⟩
  | _, _ => .fail
theorem eight_ok : SpecOK P 48 eightS := by
  refine specOK_fast (GammaOK.nil P) hm (Λ := eightL) Try.func48 (by kernel_rfl) (LoopsOK.one (by kernel_rfl) (fUnroll_ok (GammaOK.nil P) hm (LoopsOK.nil (by kernel_rfl)) _ _)) ?_
  intro args bs r h
  unfold eightS at h
  split at h
  · rename_i n
    rw [den_leaf] at h
    subst h
    rw [show (fFn P (specsOf []) eightL Try.f48 [.int .i64 n] []).denN = Tree.denN (Tree.leaf
  {
    v :=
      V.str
        (bytesOf
            [IntKind.u8.wrap
                (bAnd IntKind.i64 (((((((n.fdiv 256).fdiv 256).fdiv 256).fdiv 256).fdiv 256).fdiv 256).fdiv 256)
                  255)] ++
          (bytesOf
              [IntKind.u8.wrap
                  (bAnd IntKind.i64 ((((((n.fdiv 256).fdiv 256).fdiv 256).fdiv 256).fdiv 256).fdiv 256) 255)] ++
            (bytesOf
                [IntKind.u8.wrap (bAnd IntKind.i64 (((((n.fdiv 256).fdiv 256).fdiv 256).fdiv 256).fdiv 256) 255)] ++
              (bytesOf [IntKind.u8.wrap (bAnd IntKind.i64 ((((n.fdiv 256).fdiv 256).fdiv 256).fdiv 256) 255)] ++
                (bytesOf [IntKind.u8.wrap (bAnd IntKind.i64 (((n.fdiv 256).fdiv 256).fdiv 256) 255)] ++
                  (bytesOf [IntKind.u8.wrap (bAnd IntKind.i64 ((n.fdiv 256).fdiv 256) 255)] ++
                    (bytesOf [IntKind.u8.wrap (bAnd IntKind.i64 (n.fdiv 256) 255)] ++
                      (bytesOf [IntKind.u8.wrap (bAnd IntKind.i64 n 255)] ++ { data := #[] })))))))),
    upd := [], new := [] }) from by kernel_rfl]
    have e (x : Int) : IntKind.u8.wrap (bAnd .i64 x 255) = x % 256 := by
      rw [show bAnd .i64 x 255 = x % 256 from bAnd_mask x 8 (by omega), IntKind.wrap_u8, Int.emod_emod_of_dvd _ (by omega)]
    have f (x : Int) : x.fdiv 256 = x / 256 := Int.fdiv_eq_ediv_of_nonneg _ (by omega)
    simp only [e, f, denN_leaf]
    have g : ({ data := #[] } : ByteArray) = bytesOf [] := rfl
    rw [g]
    simp only [← bytesOf_append]
    have k (i : Nat) : n / 2 ^ (8 * (i + 1)) = n / 2 ^ (8 * i) / 256 := by
      rw [Int.ediv_ediv_of_nonneg (by exact Int.le_of_lt (Int.pow_pos (by omega))), show 8 * (i + 1) = 8 * i + 8 by omega, Int.pow_add]; rfl
    simp only [beBytes, byteAt, k]
    simp
  · simp [den_fail] at h
end Go.Proofs.Ythjldfmlclpdbaa

set_option maxRecDepth 100000
set_option linter.unusedSimpArgs false
namespace Go.Proofs.Ythjldfmlclpdbaa
open Go.Rx

def headBytes (ty dom fl co c0 c1 c2 c3 c4 c5 c6 c7 n se lo : Int) : List Int :=
  [byteAt ty 0, 2, byteAt (longZ ty) 1, byteAt (longZ ty) 0, byteAt dom 0, 0, byteAt fl 1, byteAt fl 0,
    byteAt co 7, byteAt co 6, byteAt co 5, byteAt co 4, byteAt co 3, byteAt co 2, byteAt co 1, byteAt co 0, 0, 0, 0, 0,
    c0, c1, c2, c3, c4, c5, c6, c7, n / 256, n % 256, byteAt se 1, byteAt se 0, 0, byteAt lo 0]

def encS : Rx.Spec := fun a b => match a, b with
  | [.agg [.int .i64 ty, .int .i64 dom, .int .i64 fl, .int .i64 co, .int .u8 c0, .int .u8 c1, .int .u8 c2, .int .u8 c3, .int .u8 c4, .int .u8 c5, .int .u8 c6, .int .u8 c7, .int .i64 n, .int .i64 se, .int .i64 lo]], [] =>
    .need (inI64 fl && byteZ c0 && byteZ c1 && byteZ c2 && byteZ c3 && byteZ c4 && byteZ c5 && byteZ c6 && byteZ c7)
      (.ite (rightB ty dom fl n se lo)
        (.leaf ⟨.tup [.sl 0 0 0 1 34 none, .tru], [], [.ints .u8 (headBytes ty dom fl co c0 c1 c2 c3 c4 c5 c6 c7 n se lo)]⟩)
        (.leaf ⟨.tup [.sl 0 0 0 1 0 none, .fls], [], [.ints .u8 []]⟩))
  | _, _ => .fail

theorem right_facts {ty dom fl n se lo : Int} (h : rightB ty dom fl n se lo = true) :
    (ty = 0 ∨ ty = 1 ∨ ty = 8 ∨ ty = 9 ∨ ty = 11) ∧ 0 ≤ dom ∧ dom ≤ 255 ∧ 0 ≤ fl ∧ fl ≤ 512 ∧ 1 ≤ n ∧ n < 65535 ∧ 0 ≤ se ∧ se ≤ 65535 ∧ -128 ≤ lo ∧ lo ≤ 127 ∧ flagsB ty fl = true := by
  simp only [rightB, sourcedB, Bool.and_eq_true, decide_eq_true_eq] at h
  obtain ⟨⟨⟨⟨⟨⟨⟨⟨h1, h2⟩, h3⟩, h4⟩, h5⟩, h6⟩, h7⟩, h8⟩, h9⟩ := h
  have h1' : ty = 0 ∨ ty = 1 ∨ ty = 8 ∨ ty = 9 ∨ ty = 11 := by
    unfold longZ at h1
    split at h1
    · omega
    · split at h1
      · omega
      · split at h1
        · omega
        · simp at h1
  have h4' : 0 ≤ fl ∧ fl ≤ 512 := by
    have := h4
    unfold flagsB at this
    split at this
    · simp at this; omega
    · split at this
      · simp at this; omega
      · simp at this; omega
  exact ⟨h1', h2, h3, h4'.1, h4'.2, h5.1, h5.2, h6, h7, h8, h9, h4⟩

theorem longZ_range (k : Int) : 0 ≤ longZ k ∧ longZ k ≤ 64 := by unfold longZ; split <;> (try split) <;> (try split) <;> omega

theorem enc_G : GammaOK P [(28, rightS), (19, longS), (45, laidS), (22, putS)] := .cons right_ok (.cons long_ok (.cons laid_ok (.cons put_ok (.nil P))))

theorem encode_ok : SpecOK P 20 encS := by
  refine specOK_fast enc_G hm (Λ := loopsOf []) Try.func20 (by kernel_rfl) (LoopsOK.nil (by kernel_rfl)) ?_
  intro args bs r h
  unfold encS at h
  split at h
  · rename_i ty dom fl co c0 c1 c2 c3 c4 c5 c6 c7 n se lo
    rw [den_need] at h
    obtain ⟨hf, h⟩ := h
    simp only [Bool.and_eq_true] at hf
    have hfl : inI64 fl = true := hf.1.1.1.1.1.1.1.1
    rw [show (fFn P (specsOf [(28, rightS), (19, longS), (45, laidS), (22, putS)]) (loopsOf []) Try.f20 [.agg [.int .i64 ty, .int .i64 dom, .int .i64 fl, .int .i64 co, .int .u8 c0, .int .u8 c1, .int .u8 c2, .int .u8 c3, .int .u8 c4, .int .u8 c5, .int .u8 c6, .int .u8 c7, .int .i64 n, .int .i64 se, .int .i64 lo]] []).denN =
      Tree.denN (Tree.ite (inI64 fl) (Tree.ite (!rightB ty dom fl n se lo) (Tree.leaf ⟨.tup [.sl 0 0 0 1 0 none, .fls], [], [.ints .u8 []]⟩)
        (Tree.ite (decide (0 ≤ n) && decide (n ≤ 65535)) (Tree.leaf ⟨.tup [.sl 0 0 0 1 34 none, .tru], [], [.ints .u8 [byteAt ty 0, byteAt 2 0, byteAt (longZ ty) 1, byteAt (longZ ty) 0, byteAt dom 0, byteAt 0 0, byteAt fl 1, byteAt fl 0,
    byteAt co 7, byteAt co 6, byteAt co 5, byteAt co 4, byteAt co 3, byteAt co 2, byteAt co 1, byteAt co 0, byteAt 0 3, byteAt 0 2, byteAt 0 1, byteAt 0 0,
    c0, c1, c2, c3, c4, c5, c6, c7, n / 256, n % 256, byteAt se 1, byteAt se 0, byteAt 0 0, byteAt lo 0]]⟩) .fail)) .fail) from by kernel_rfl]
    simp only [denN_ite, denN_leaf, denN_fail, hfl, if_true]
    cases hr : rightB ty dom fl n se lo with
    | false =>
      rw [hr, den_ite] at h
      simp only [Bool.false_eq_true, false_and, true_and, false_or, den_leaf] at h
      subst h
      rfl
    | true =>
      rw [hr, den_ite] at h
      simp only [Bool.true_eq_false, false_and, true_and, or_false, den_leaf] at h
      subst h
      have := right_facts hr
      rw [if_neg (by simp), if_pos (by simp; omega)]
      rfl
  · simp [den_fail] at h

theorem refEnc_G : GammaOK P [(31, rightS), (47, longS), (25, putS), (46, twoS), (48, eightS)] := .cons refRight_ok (.cons refLong_ok (.cons refPut_ok (.cons two_ok (.cons eight_ok (.nil P)))))

theorem refEncode_ok : SpecOK P 23 encS := by
  refine specOK_fast refEnc_G hm (Λ := loopsOf []) Try.func23 (by kernel_rfl) (LoopsOK.nil (by kernel_rfl)) ?_
  intro args bs r h
  unfold encS at h
  split at h
  · rename_i ty dom fl co c0 c1 c2 c3 c4 c5 c6 c7 n se lo
    rw [den_need] at h
    obtain ⟨hf, h⟩ := h
    simp only [Bool.and_eq_true] at hf
    have hfl : inI64 fl = true := hf.1.1.1.1.1.1.1.1
    rw [show (fFn P (specsOf [(31, rightS), (47, longS), (25, putS), (46, twoS), (48, eightS)]) (loopsOf []) Try.f23 [.agg [.int .i64 ty, .int .i64 dom, .int .i64 fl, .int .i64 co, .int .u8 c0, .int .u8 c1, .int .u8 c2, .int .u8 c3, .int .u8 c4, .int .u8 c5, .int .u8 c6, .int .u8 c7, .int .i64 n, .int .i64 se, .int .i64 lo]] []).denN =
      Tree.denN (Tree.ite (inI64 fl) (Tree.ite (!rightB ty dom fl n se lo) (Tree.leaf ⟨.tup [.sl 0 0 0 1 0 none, .fls], [], [.ints .u8 []]⟩)
        (Tree.ite (decide (0 ≤ n) && decide (n ≤ 65535)) (Tree.ite (decide (0 ≤ longZ ty) && decide (longZ ty ≤ 65535)) (Tree.ite (decide (0 ≤ fl) && decide (fl ≤ 65535)) (Tree.ite (decide (0 ≤ se) && decide (se ≤ 65535)) (Tree.leaf ⟨.tup [.sl 0 0 0 1 34 none, .tru], [],
          [.ints .u8 (numsOf (bytesOf [IntKind.u8.wrap ty, 2] ++ bytesOf (beBytes (longZ ty) 2) ++ bytesOf [IntKind.u8.wrap dom, 0] ++ bytesOf (beBytes fl 2) ++ bytesOf (beBytes co 8) ++ bytesOf [0, 0, 0, 0] ++ bytesOf [c0, c1, c2, c3, c4, c5, c6, c7, n / 256, n % 256] ++ bytesOf (beBytes se 2) ++ bytesOf [0, IntKind.u8.wrap ((IntKind.i64.wrap (lo + 256)).tmod 256)]))]⟩) .fail) .fail) .fail) .fail)) .fail) from by kernel_rfl]
    simp only [denN_ite, denN_leaf, denN_fail, hfl, if_true]
    cases hr : rightB ty dom fl n se lo with
    | false =>
      rw [hr, den_ite] at h
      simp only [Bool.false_eq_true, false_and, true_and, false_or, den_leaf] at h
      subst h
      rfl
    | true =>
      rw [hr, den_ite] at h
      simp only [Bool.true_eq_false, false_and, true_and, or_false, den_leaf] at h
      subst h
      have hfacts := right_facts hr
      have hlong := longZ_range ty
      simp only [byteZ, Bool.and_eq_true, decide_eq_true_eq] at hf
      rw [if_neg (by simp), if_pos (by simp; omega), if_pos (by simp; omega), if_pos (by simp; omega), if_pos (by simp; omega)]
      have e0 : IntKind.u8.wrap ty = byteAt ty 0 := by rw [IntKind.wrap_u8]; simp [byteAt]
      have e1 : IntKind.u8.wrap dom = byteAt dom 0 := by rw [IntKind.wrap_u8]; simp [byteAt]
      have e2 : IntKind.u8.wrap ((IntKind.i64.wrap (lo + 256)).tmod 256) = byteAt lo 0 := by
        rw [wrap64_id (by omega) (by omega), Int.tmod_eq_emod_of_nonneg (by omega), IntKind.wrap_u8]
        simp only [byteAt]
        omega
      rw [e0, e1, e2]
      simp only [← bytesOf_append]
      rw [numsOf_bytesOf]
      · rfl
      · intro x hx
        simp only [beBytes, List.mem_append, List.mem_cons, List.not_mem_nil, or_false] at hx
        have hb := byteAt_range
        have hn : 0 ≤ n / 256 ∧ n / 256 < 256 := by omega
        have hn' : 0 ≤ n % 256 ∧ n % 256 < 256 := by omega
        rcases hx with ((((((((h | h) | (h | h)) | (h | h)) | (h | h)) | (h | h | h | h | h | h | h | h)) | (h | h | h | h)) | (h | h | h | h | h | h | h | h | h | h)) | (h | h)) | (h | h) <;> subst h <;> first | exact hb _ _ | exact hn | exact hn' | omega
  · simp [den_fail] at h
end Go.Proofs.Ythjldfmlclpdbaa

set_option maxRecDepth 100000
set_option linter.unusedSimpArgs false
set_option linter.unusedVariables false
namespace Go.Proofs.Ythjldfmlclpdbaa
open Go.Rx

def allByte (xs : List Int) : Bool := xs.all byteZ
theorem allByte_getD {xs : List Int} (h : allByte xs = true) (i : Nat) : 0 ≤ xs.getD i 0 ∧ xs.getD i 0 ≤ 255 := by
  rw [List.getD_eq_getElem?_getD]
  cases hi : xs[i]? with
  | none => simp
  | some x =>
    have := List.all_eq_true.1 h x (List.mem_of_getElem? hi)
    simpa [byteZ] using this

def bytesAt (xs : List Int) (i l : Nat) : List Int := (List.range l).map fun j => xs.getD (i + j) 0
theorem bytesAt_succ (xs : List Int) (i l : Nat) : bytesAt xs i (l + 1) = xs.getD i 0 :: bytesAt xs (i + 1) l := by
  unfold bytesAt
  rw [List.range_succ_eq_map]
  simp only [List.map_cons, List.map_map, Nat.add_zero, List.cons.injEq, true_and]
  apply List.map_congr_left
  intro j _
  simp only [Function.comp_apply]
  rw [show i + j.succ = i + 1 + j by omega]

def sumF (n : Int) (xs : List Int) : Int := xs.foldl (fun n x => n * 256 + x) n
theorem wrap_step (a x : Int) : IntKind.i64.wrap (IntKind.i64.wrap a * 256 + x) = IntKind.i64.wrap (a * 256 + x) := by
  simp only [IntKind.wrap_i64]; omega
theorem wrap_wrap (a : Int) : IntKind.i64.wrap (IntKind.i64.wrap a) = IntKind.i64.wrap a := by
  simp only [IntKind.wrap_i64]; omega
theorem wrap_sumF : ∀ (xs : List Int) (n : Int), IntKind.i64.wrap (sumF (IntKind.i64.wrap n) xs) = IntKind.i64.wrap (sumF n xs)
  | [], n => by simp only [sumF, List.foldl_nil]; exact wrap_wrap n
  | x :: xs, n => by
    have h1 := wrap_sumF xs (IntKind.i64.wrap n * 256 + x)
    have h2 := wrap_sumF xs (n * 256 + x)
    simp only [sumF, List.foldl_cons] at *
    rw [← h1, ← h2, wrap_step]

/-! ### 'number' -/
def numF (vals : List V) (bs : List Blk) : Tree LRes := match vals, bs with
  | [.int .i64 n, .sl 0 i 0 1 l cap, .int .i64 len, .int .i64 k], [.ints .u8 xs] =>
    .need (allByte xs && decide (len = l) && decide (i + l ≤ xs.length) && decide (0 ≤ k) && decide (k ≤ l) && decide (l ≤ 9223372036854775806) && decide (IntKind.i64.wrap n = n))
      (.leaf ⟨.exit 0, [.int .i64 (IntKind.i64.wrap (sumF n (bytesAt xs (i + k.toNat) (l - k.toNat))))], [none], []⟩)
  | _, _ => .fail
def numL : LSpec := ⟨19, [3, 6, 7, 8], [3], numF⟩

theorem num_rounds (i l : Nat) (cap : Option Nat) (xs : List Int) (hb : allByte xs = true) (hl : i + l ≤ xs.length) (hl2 : l ≤ 9223372036854775806) : ∀ (m k : Nat) (n : Int), m + k = l → IntKind.i64.wrap n = n →
    (loopN P (specsOf []) (loopsOf []) 19 [3, 6, 7, 8] [3] (loopAt Try.f55 0) (m + 1) [.int .i64 n, .sl 0 i 0 1 l cap, .int .i64 l, .int .i64 k] [.ints .u8 xs]).den =
      some ⟨.exit 0, [.int .i64 (IntKind.i64.wrap (sumF n (bytesAt xs (i + k) m)))], [none], []⟩ := by
  have round : ∀ (n k len : Int), (evRound P (specsOf []) (loopsOf []) 19 [3, 6, 7, 8] [3] (loopAt Try.f55 0) [.int .i64 n, .sl 0 i 0 1 l cap, .int .i64 len, .int .i64 k] [.ints .u8 xs]).den = Tree.den (Tree.ite (decide (k < len))
  (Tree.ite (decide (0 ≤ k) && decide (k < ↑l))
    (Tree.ite (decide (i + k.toNat + 1 ≤ xs.length))
      (Tree.leaf
        { e := Ex.nrm,
          vs :=
            [V.int IntKind.i64
                (bOr IntKind.i64 (IntKind.i64.wrap (n * 256)) (IntKind.i64.wrap (xs.getD (i + k.toNat + 0) 0))),
              V.sl 0 i 0 1 l cap, V.int IntKind.i64 len, V.int IntKind.i64 (IntKind.i64.wrap (k + 1))],
          upd := [none], new := [] })
      Tree.fail)
    Tree.fail)
  (Tree.leaf { e := Ex.exit 0, vs := [V.int IntKind.i64 n], upd := [none], new := [] })) := by
    intro n k len
    kernel_rfl
  intro m
  induction m with
  | zero =>
    intro k n hk hn
    refine loopN_end ?_ (by simp)
    rw [round, show decide ((k : Int) < (l : Int)) = false by simp; omega]
    simp only [Tree.den, bytesAt, sumF, List.range_zero, List.map_nil, List.foldl_nil, hn]
  | succ m ih =>
    intro k n hk hn
    have hr := round n k l
    have hx := allByte_getD hb (i + k)
    rw [show decide ((k : Int) < (l : Int)) = true by simp; omega, show decide (0 ≤ (k : Int)) = true by simp, show decide (i + (k : Int).toNat + 1 ≤ xs.length) = true by simp; omega,
      wrap64_id (n := (k : Int) + 1) (by omega) (by omega), Int.toNat_natCast, Nat.add_zero, wrap64_id (n := xs.getD (i + k) 0) (by omega) (by omega),
      bOr_byte _ _ (by simp only [IntKind.wrap_i64]; omega) (by omega) (by omega)] at hr
    rw [show IntKind.i64.wrap (IntKind.i64.wrap (n * 256) + xs.getD (i + k) 0) = IntKind.i64.wrap (n * 256 + xs.getD (i + k) 0) by simp only [IntKind.wrap_i64]; omega] at hr
    simp only [Tree.den, Bool.and_self] at hr
    have ih' := ih (k + 1) (IntKind.i64.wrap (n * 256 + xs.getD (i + k) 0)) (by omega) (wrap_wrap _)
    refine loopN_step hr rfl (vals' := [.int .i64 (IntKind.i64.wrap (n * 256 + xs.getD (i + k) 0)), .sl 0 i 0 1 l cap, .int .i64 l, .int .i64 ((k + 1 : Nat) : Int)]) (bs' := [.ints .u8 xs]) (by kernel_rfl) ?_ (by kernel_rfl) ih' ?_
    · rw [show ((k + 1 : Nat) : Int) = (k : Int) + 1 by omega]
      kernel_rfl
    · rw [bytesAt_succ, show sumF n (xs.getD (i + k) 0 :: bytesAt xs (i + k + 1) m) = sumF (n * 256 + xs.getD (i + k) 0) (bytesAt xs (i + (k + 1)) m) from rfl, ← wrap_sumF _ (n * 256 + xs.getD (i + k) 0)]
      kernel_rfl

theorem num_loop : LoopOK P (loopAt Try.f55 0) numL := by
  refine loop_ok (GammaOK.nil P) hm (Λ := loopsOf []) (LoopsOK.nil (by kernel_rfl)) _ ?_
  intro vals bs r h
  simp only [numL, numF] at h
  split at h
  · rename_i n i l cap len k xs
    rw [den_need, den_leaf] at h
    simp only [Bool.and_eq_true, decide_eq_true_eq] at h
    obtain ⟨⟨⟨⟨⟨⟨⟨h1, rfl⟩, h3⟩, h4⟩, h5⟩, h6⟩, h7⟩, rfl⟩ := h
    refine ⟨(l - k.toNat) + 1, ?_⟩
    have := num_rounds i l cap xs h1 h3 h6 (l - k.toNat) k.toNat n (by omega) h7
    rw [Int.toNat_of_nonneg h4] at this
    exact this
  · simp [den_fail] at h

def numberS : Rx.Spec := fun a b => match a, b with
  | [.sl 0 i 0 1 l cap], [.ints .u8 xs] => .need (allByte xs && decide (i + l ≤ xs.length) && decide (l ≤ 9223372036854775806)) (.leaf ⟨.int .i64 (IntKind.i64.wrap (sumF 0 (bytesAt xs i l))), [none], []⟩)
  | _, _ => .fail

theorem number_ok : SpecOK P 55 numberS := by
  refine specOK_fast (GammaOK.nil P) hm (Λ := loopsOf [(3, numL)]) Try.func55 (by kernel_rfl) (LoopsOK.one (by kernel_rfl) num_loop) ?_
  intro args bs r h
  unfold numberS at h
  split at h
  · rename_i i l cap xs
    rw [den_need, den_leaf] at h
    obtain ⟨hf, rfl⟩ := h
    simp only [Bool.and_eq_true, decide_eq_true_eq] at hf
    obtain ⟨⟨h1, h2⟩, h3⟩ := hf
    rw [show (fFn P (specsOf []) (loopsOf [(3, numL)]) Try.f55 [.sl 0 i 0 1 l cap] [.ints .u8 xs]).denN = Tree.denN (Tree.ite (allByte xs && decide ((l : Int) = l) && decide (i + l ≤ xs.length) && decide ((0 : Int) ≤ 0) && decide ((0 : Int) ≤ l) && decide (l ≤ 9223372036854775806) && decide (IntKind.i64.wrap 0 = 0))
      (.leaf ⟨.int .i64 (IntKind.i64.wrap (sumF 0 (bytesAt xs (i + 0) (l - 0)))), [none], []⟩) .fail) from by kernel_rfl]
    rw [denN_ite, if_pos]
    · rfl
    · simp [h1, h2, h3, IntKind.wrap_i64]
  · simp [den_fail] at h

/-! ### A port read -/
def getS : Rx.Spec := fun a b => match a, b with
  | [.sl 0 i 0 1 l cap], [.ints .u8 xs] => .need (allByte xs && decide (l = 10) && decide (i + 10 ≤ xs.length))
    (.leaf ⟨.tup [.agg [.int .u8 (xs.getD i 0), .int .u8 (xs.getD (i + 1) 0), .int .u8 (xs.getD (i + 2) 0), .int .u8 (xs.getD (i + 3) 0), .int .u8 (xs.getD (i + 4) 0), .int .u8 (xs.getD (i + 5) 0), .int .u8 (xs.getD (i + 6) 0), .int .u8 (xs.getD (i + 7) 0),
      .int .i64 (xs.getD (i + 8) 0 * 256 + xs.getD (i + 9) 0)], .tru], [none], []⟩)
  | _, _ => .fail

theorem get_ok : SpecOK P 40 getS := by
  refine specOK_fast (GammaOK.nil P) hm (Λ := loopsOf []) Try.func40 (by kernel_rfl) (LoopsOK.nil (by kernel_rfl)) ?_
  intro args bs r h
  unfold getS at h
  split at h
  · rename_i i l cap xs
    rw [den_need, den_leaf] at h
    obtain ⟨hf, rfl⟩ := h
    simp only [Bool.and_eq_true, decide_eq_true_eq] at hf
    obtain ⟨⟨h1, rfl⟩, h3⟩ := hf
    have h8 := allByte_getD h1 (i + 8)
    have h9 := allByte_getD h1 (i + 9)
    rw [show (fFn P (specsOf []) (loopsOf []) Try.f40 [.sl 0 i 0 1 10 cap] [.ints .u8 xs]).denN = Tree.denN
    (Tree.ite (decide (i + 0 + 8 ≤ xs.length))
        (Tree.ite (decide (i + 8 + 1 ≤ xs.length))
            (Tree.ite (decide (i + 9 + 1 ≤ xs.length))
              (Tree.leaf
                {
                  v :=
                    V.tup
                      [V.agg
                          [V.int IntKind.u8 (xs.getD (i + 0 + 0) 0), V.int IntKind.u8 (xs.getD (i + 0 + 1) 0),
                            V.int IntKind.u8 (xs.getD (i + 0 + 2) 0), V.int IntKind.u8 (xs.getD (i + 0 + 3) 0),
                            V.int IntKind.u8 (xs.getD (i + 0 + 4) 0), V.int IntKind.u8 (xs.getD (i + 0 + 5) 0),
                            V.int IntKind.u8 (xs.getD (i + 0 + 6) 0), V.int IntKind.u8 (xs.getD (i + 0 + 7) 0),
                            V.int IntKind.i64
                              (bOr IntKind.i64 (IntKind.i64.wrap (IntKind.i64.wrap (xs.getD (i + 8 + 0) 0) * 256))
                                (IntKind.i64.wrap (xs.getD (i + 9 + 0) 0)))],
                        V.tru],
                  upd := [none], new := [] })
              Tree.fail)
          Tree.fail)
      Tree.fail) from by kernel_rfl]
    simp only [denN_ite, denN_leaf, denN_fail, Nat.add_zero]
    rw [if_pos (by simp; omega), if_pos (by simp; omega), if_pos (by simp; omega), wrap64_id (n := xs.getD (i + 8) 0) (by omega) (by omega), wrap64_id (n := xs.getD (i + 9) 0) (by omega) (by omega), wrap64_id (by omega) (by omega),
      bOr_byte _ _ (by omega) (by omega) (by omega), wrap64_id (by omega) (by omega)]
  · simp [den_fail] at h

noncomputable def refGetL : Nat → Option LSpec := loopsOf [(firstRegion (loopAt Try.f43 0), fUnroll P (specsOf []) (loopsOf []) Try.f43 (loopAt Try.f43 0) 9)]

theorem refGet_ok : SpecOK P 43 getS := by
  refine specOK_fast (GammaOK.nil P) hm (Λ := refGetL) Try.func43 (by kernel_rfl) (LoopsOK.one (by kernel_rfl) (fUnroll_ok (GammaOK.nil P) hm (LoopsOK.nil (by kernel_rfl)) _ _)) ?_
  intro args bs r h
  unfold getS at h
  split at h
  · rename_i i l cap xs
    rw [den_need, den_leaf] at h
    obtain ⟨hf, rfl⟩ := h
    simp only [Bool.and_eq_true, decide_eq_true_eq] at hf
    obtain ⟨⟨h1, rfl⟩, h3⟩ := hf
    have h8 := allByte_getD h1 (i + 8)
    have h9 := allByte_getD h1 (i + 9)
    rw [show (fFn P (specsOf []) refGetL Try.f43 [.sl 0 i 0 1 10 cap] [.ints .u8 xs]).denN = Tree.denN
    (Tree.ite (decide (i + 0 + 1 ≤ xs.length)) (Tree.ite (decide (i + 1 + 1 ≤ xs.length)) (Tree.ite (decide (i + 2 + 1 ≤ xs.length)) (Tree.ite (decide (i + 3 + 1 ≤ xs.length)) (Tree.ite (decide (i + 4 + 1 ≤ xs.length)) (Tree.ite (decide (i + 5 + 1 ≤ xs.length)) (Tree.ite (decide (i + 6 + 1 ≤ xs.length)) (Tree.ite (decide (i + 7 + 1 ≤ xs.length)) (Tree.ite (decide (i + 8 + 1 ≤ xs.length)) (Tree.ite (decide (i + 9 + 1 ≤ xs.length))
       (Tree.leaf
                                            {
                                              v :=
                                                V.tup
                                                  [V.agg
                                                      [V.int IntKind.u8 (xs.getD (i + 0 + 0) 0),
                                                        V.int IntKind.u8 (xs.getD (i + 1 + 0) 0),
                                                        V.int IntKind.u8 (xs.getD (i + 2 + 0) 0),
                                                        V.int IntKind.u8 (xs.getD (i + 3 + 0) 0),
                                                        V.int IntKind.u8 (xs.getD (i + 4 + 0) 0),
                                                        V.int IntKind.u8 (xs.getD (i + 5 + 0) 0),
                                                        V.int IntKind.u8 (xs.getD (i + 6 + 0) 0),
                                                        V.int IntKind.u8 (xs.getD (i + 7 + 0) 0),
                                                        V.int IntKind.i64
                                                          (IntKind.i64.wrap
                                                            (IntKind.i64.wrap
                                                                (IntKind.i64.wrap (xs.getD (i + 8 + 0) 0) * 256) +
                                                              IntKind.i64.wrap (xs.getD (i + 9 + 0) 0)))],
                                                    V.tru],
                                              upd := [none], new := [] }) .fail) .fail) .fail) .fail) .fail) .fail) .fail) .fail) .fail) .fail) from by kernel_rfl]
    simp only [denN_ite, denN_leaf, denN_fail, Nat.add_zero]
    rw [if_pos (by simp; omega), if_pos (by simp; omega), if_pos (by simp; omega), if_pos (by simp; omega), if_pos (by simp; omega), if_pos (by simp; omega), if_pos (by simp; omega), if_pos (by simp; omega), if_pos (by simp; omega), if_pos (by simp; omega), wrap64_id (n := xs.getD (i + 8) 0) (by omega) (by omega), wrap64_id (n := xs.getD (i + 9) 0) (by omega) (by omega), wrap64_id (n := xs.getD (i + 8) 0 * 256) (by omega) (by omega), wrap64_id (by omega) (by omega)]
  · simp [den_fail] at h
end Go.Proofs.Ythjldfmlclpdbaa

set_option maxRecDepth 100000
set_option linter.unusedSimpArgs false
set_option linter.unusedVariables false
namespace Go.Proofs.Ythjldfmlclpdbaa
open Go.Rx

def valueS : Rx.Spec := fun a b => match a, b with
  | [.sl 0 i 0 1 l cap, .int .i64 n], [.ints .u8 xs] => .need (allByte xs && decide (i + l ≤ xs.length) && decide (0 ≤ n) && decide (n + 1 < l) && decide (l ≤ 9223372036854775806))
    (.leaf ⟨.int .i64 (xs.getD (i + n.toNat) 0 * 256 + xs.getD (i + n.toNat + 1) 0), [none], []⟩)
  | _, _ => .fail

theorem value_ok : SpecOK P 57 valueS := by
  refine specOK_fast (GammaOK.nil P) hm (Λ := loopsOf []) Try.func57 (by kernel_rfl) (LoopsOK.nil (by kernel_rfl)) ?_
  intro args bs r h
  unfold valueS at h
  split at h
  · rename_i i l cap n xs
    rw [den_need, den_leaf] at h
    obtain ⟨hf, rfl⟩ := h
    simp only [Bool.and_eq_true, decide_eq_true_eq] at hf
    obtain ⟨⟨⟨⟨h1, h2⟩, h3⟩, h4⟩, h5⟩ := hf
    have h8 := allByte_getD h1 (i + n.toNat)
    have h9 := allByte_getD h1 (i + n.toNat + 1)
    rw [show (fFn P (specsOf []) (loopsOf []) Try.f57 [.sl 0 i 0 1 l cap, .int .i64 n] [.ints .u8 xs]).denN = Tree.denN (Tree.ite (decide (0 ≤ n) && decide (n < ↑l))
  (Tree.ite (decide (i + n.toNat + 1 ≤ xs.length))
    (Tree.ite (decide (0 ≤ IntKind.i64.wrap (n + 1)) && decide (IntKind.i64.wrap (n + 1) < ↑l))
      (Tree.ite (decide (i + (IntKind.i64.wrap (n + 1)).toNat + 1 ≤ xs.length))
        (Tree.leaf
          {
            v :=
              V.int IntKind.i64
                (IntKind.i64.wrap
                  (IntKind.i64.wrap (IntKind.i64.wrap (xs.getD (i + n.toNat + 0) 0) * 256) +
                    IntKind.i64.wrap (xs.getD (i + (IntKind.i64.wrap (n + 1)).toNat + 0) 0))),
            upd := [none], new := [] })
        Tree.fail)
      Tree.fail)
    Tree.fail)
  Tree.fail) from by kernel_rfl]
    rw [wrap64_id (n := n + 1) (by omega) (by omega)]
    simp only [denN_ite, denN_leaf, denN_fail, Nat.add_zero]
    rw [if_pos (by simp; omega), if_pos (by simp; omega), if_pos (by simp; omega), if_pos (by simp; omega), show i + (n + 1).toNat = i + n.toNat + 1 by omega,
      wrap64_id (n := xs.getD (i + n.toNat) 0) (by omega) (by omega), wrap64_id (n := xs.getD (i + n.toNat + 1) 0) (by omega) (by omega), wrap64_id (n := xs.getD (i + n.toNat) 0 * 256) (by omega) (by omega), wrap64_id (by omega) (by omega)]
  · simp [den_fail] at h

noncomputable def signedL : Nat → Option LSpec := loopsOf [(firstRegion (loopAt Try.f58 0), fUnroll P (specsOf []) (loopsOf []) Try.f58 (loopAt Try.f58 0) 9)]
def signedS : Rx.Spec := fun a b => match a, b with
  | [.sl 0 i 0 1 l cap], [.ints .u8 xs] => .need (allByte xs && decide (l = 8) && decide (i + 8 ≤ xs.length)) (.leaf ⟨.int .i64 (IntKind.i64.wrap (sumF 0 (bytesAt xs i 8))), [none], []⟩)
  | _, _ => .fail

def wsum (m b1 b2 b3 b4 b5 b6 b7 : Int) : Int := IntKind.i64.wrap (IntKind.i64.wrap (IntKind.i64.wrap (IntKind.i64.wrap (IntKind.i64.wrap (IntKind.i64.wrap (IntKind.i64.wrap (IntKind.i64.wrap (IntKind.i64.wrap (IntKind.i64.wrap (IntKind.i64.wrap (IntKind.i64.wrap (IntKind.i64.wrap (IntKind.i64.wrap
  (m * 256) + IntKind.i64.wrap b1) * 256) + IntKind.i64.wrap b2) * 256) + IntKind.i64.wrap b3) * 256) + IntKind.i64.wrap b4) * 256) + IntKind.i64.wrap b5) * 256) + IntKind.i64.wrap b6) * 256) + IntKind.i64.wrap b7)

theorem wrap_add2 (a b : Int) : IntKind.i64.wrap (IntKind.i64.wrap a + IntKind.i64.wrap b) = IntKind.i64.wrap (a + b) := by
  simp only [IntKind.wrap_i64]; omega
theorem wrap_mul (a : Int) : IntKind.i64.wrap (IntKind.i64.wrap a * 256) = IntKind.i64.wrap (a * 256) := by
  simp only [IntKind.wrap_i64]; omega
theorem wsum_eq (m b1 b2 b3 b4 b5 b6 b7 : Int) : wsum m b1 b2 b3 b4 b5 b6 b7 = IntKind.i64.wrap (sumF m [b1, b2, b3, b4, b5, b6, b7]) := by
  simp only [wsum, wrap_add2, wrap_mul, sumF, List.foldl_cons, List.foldl_nil]

theorem signed_ok : SpecOK P 58 signedS := by
  refine specOK_fast (GammaOK.nil P) hm (Λ := signedL) Try.func58 (by kernel_rfl) (LoopsOK.one (by kernel_rfl) (fUnroll_ok (GammaOK.nil P) hm (LoopsOK.nil (by kernel_rfl)) _ _)) ?_
  intro args bs r h
  unfold signedS at h
  split at h
  · rename_i i l cap xs
    rw [den_need, den_leaf] at h
    obtain ⟨hf, rfl⟩ := h
    simp only [Bool.and_eq_true, decide_eq_true_eq] at hf
    obtain ⟨⟨h1, rfl⟩, h3⟩ := hf
    let T (m : Int) : Tree Res := Tree.ite (decide (i + 1 + 1 ≤ xs.length)) (Tree.ite (decide (i + 2 + 1 ≤ xs.length)) (Tree.ite (decide (i + 3 + 1 ≤ xs.length)) (Tree.ite (decide (i + 4 + 1 ≤ xs.length)) (Tree.ite (decide (i + 5 + 1 ≤ xs.length)) (Tree.ite (decide (i + 6 + 1 ≤ xs.length)) (Tree.ite (decide (i + 7 + 1 ≤ xs.length))
      (.leaf ⟨.int .i64 (wsum m (xs.getD (i + 1 + 0) 0) (xs.getD (i + 2 + 0) 0) (xs.getD (i + 3 + 0) 0) (xs.getD (i + 4 + 0) 0) (xs.getD (i + 5 + 0) 0) (xs.getD (i + 6 + 0) 0) (xs.getD (i + 7 + 0) 0)), [none], []⟩) .fail) .fail) .fail) .fail) .fail) .fail) .fail
    rw [show (fFn P (specsOf []) signedL Try.f58 [.sl 0 i 0 1 8 cap] [.ints .u8 xs]).denN = Tree.denN (Tree.ite (decide (i + 0 + 1 ≤ xs.length)) (Tree.ite (decide (IntKind.i64.wrap (xs.getD (i + 0 + 0) 0) > 127))
       (T (IntKind.i64.wrap (IntKind.i64.wrap (xs.getD (i + 0 + 0) 0) - 256))) (T (IntKind.i64.wrap (xs.getD (i + 0 + 0) 0)))) .fail) from by kernel_rfl]
    have b0 := allByte_getD h1 i
    have hT : ∀ m, (T m).denN = some (Res.nrm ⟨.int .i64 (IntKind.i64.wrap (sumF m (bytesAt xs (i + 1) 7))), [none], []⟩) := by
      intro m
      simp only [T, denN_ite, denN_leaf, denN_fail, Nat.add_zero]
      rw [if_pos (by simp; omega), if_pos (by simp; omega), if_pos (by simp; omega), if_pos (by simp; omega), if_pos (by simp; omega), if_pos (by simp; omega), if_pos (by simp; omega), wsum_eq]
      rfl
    simp only [denN_ite, denN_leaf, denN_fail, Nat.add_zero, hT]
    rw [if_pos (by simp; omega)]
    have w0 := wrap64_id (n := xs.getD i 0) (by omega) (by omega)
    have w1 := wrap64_id (n := xs.getD i 0 - 256) (by omega) (by omega)
    simp only [w0, w1]
    rw [show bytesAt xs i 8 = xs.getD i 0 :: bytesAt xs (i + 1) 7 from bytesAt_succ xs i 7]
    have e : IntKind.i64.wrap (sumF (xs.getD i 0 - 256) (bytesAt xs (i + 1) 7)) = IntKind.i64.wrap (sumF (xs.getD i 0) (bytesAt xs (i + 1) 7)) := by
      simp only [bytesAt_succ, sumF, List.foldl_cons, List.foldl_nil, show bytesAt xs (i + 1 + 1 + 1 + 1 + 1 + 1 + 1 + 1) 0 = [] from rfl, IntKind.wrap_i64]
      omega
    have f : sumF 0 (xs.getD i 0 :: bytesAt xs (i + 1) 7) = sumF (xs.getD i 0) (bytesAt xs (i + 1) 7) := by simp [sumF]
    rw [e, f]
    split <;> rfl
  · simp [den_fail] at h

def resB8 (xs : List Int) : Bool := xs.getD 0 0 / 16 != 0 || xs.getD 5 0 != 0 || (xs.getD 16 0 != 0 || xs.getD 17 0 != 0 || xs.getD 18 0 != 0 || xs.getD 19 0 != 0) || xs.getD 32 0 != 0
def reservedS : Rx.Spec := fun a b => match a, b with
  | [.sl 0 0 0 1 l cap], [.ints .u8 xs] => .need (allByte xs && decide (l ≤ xs.length) && decide (34 ≤ l)) (.leaf ⟨.bool (resB8 xs), [none], []⟩)
  | _, _ => .fail

theorem reserved_ok : SpecOK P 56 reservedS := by
  refine specOK_fast (.cons number_ok (.nil P)) hm (Λ := loopsOf []) Try.func56 (by kernel_rfl) (LoopsOK.nil (by kernel_rfl)) ?_
  intro args bs r h
  unfold reservedS at h
  split at h
  · rename_i l cap xs
    rw [den_need, den_leaf] at h
    obtain ⟨hf, rfl⟩ := h
    simp only [Bool.and_eq_true, decide_eq_true_eq] at hf
    obtain ⟨⟨h1, h2⟩, h3⟩ := hf
    rw [show (fFn P (specsOf [(55, numberS)]) (loopsOf []) Try.f56 [.sl 0 0 0 1 l cap] [.ints .u8 xs]).denN = Tree.denN (Tree.ite (true && decide (0 < (l : Int)))
  (Tree.ite (decide (1 ≤ xs.length))
    (Tree.ite ((xs.getD 0 0).fdiv 16 != 0) (Tree.leaf { v := V.tru, upd := [none], new := [] })
      (Tree.ite (true && decide (5 < (l : Int)))
        (Tree.ite (decide (6 ≤ xs.length))
          (Tree.ite (xs.getD 5 0 != 0) (Tree.leaf { v := V.tru, upd := [none], new := [] })
            (Tree.ite (true && decide (20 ≤ (l : Int)))
              (Tree.ite (allByte xs && decide (20 ≤ xs.length) && true)
                (Tree.ite (IntKind.i64.wrap (sumF 0 [xs.getD 16 0, xs.getD 17 0, xs.getD 18 0, xs.getD 19 0]) != 0)
                  (Tree.leaf { v := V.tru, upd := [none], new := [] })
                  (Tree.ite (true && decide (32 < (l : Int)))
                    (Tree.ite (decide (33 ≤ xs.length))
                      (Tree.leaf { v := V.bool (xs.getD 32 0 != 0), upd := [none], new := [] }) Tree.fail)
                    Tree.fail))
                Tree.fail)
              Tree.fail))
          Tree.fail)
        Tree.fail))
    Tree.fail)
  Tree.fail) from by kernel_rfl]
    have b16 := allByte_getD h1 16
    have b17 := allByte_getD h1 17
    have b18 := allByte_getD h1 18
    have b19 := allByte_getD h1 19
    have e : (IntKind.i64.wrap (sumF 0 [xs.getD 16 0, xs.getD 17 0, xs.getD 18 0, xs.getD 19 0]) != 0) = (xs.getD 16 0 != 0 || xs.getD 17 0 != 0 || xs.getD 18 0 != 0 || xs.getD 19 0 != 0) := by
      simp only [sumF, List.foldl_cons, List.foldl_nil]
      rw [wrap64_id (by omega) (by omega), Bool.eq_iff_iff]
      simp only [Bool.or_eq_true, bne_iff_ne]
      omega
    have f : (xs.getD 0 0).fdiv 16 = xs.getD 0 0 / 16 := Int.fdiv_eq_ediv_of_nonneg _ (by omega)
    simp only [denN_ite, denN_leaf, denN_fail, e, f]
    rw [if_pos (by simp; omega), if_pos (by simp; omega), if_pos (c := (true && decide (5 < (l : Int))) = true) (by simp; omega), if_pos (c := decide (6 ≤ xs.length) = true) (by simp; omega), if_pos (c := (true && decide (20 ≤ (l : Int))) = true) (by simp; omega),
      if_pos (c := (allByte xs && decide (20 ≤ xs.length) && true) = true) (by simp [h1]; omega), if_pos (c := (true && decide (32 < (l : Int))) = true) (by simp; omega), if_pos (c := decide (33 ≤ xs.length) = true) (by simp; omega)]
    unfold resB8
    cases xs.getD 0 0 / 16 != 0
    · cases xs.getD 5 0 != 0
      · cases (xs.getD 16 0 != 0 || xs.getD 17 0 != 0 || xs.getD 18 0 != 0 || xs.getD 19 0 != 0) with
        | false => rfl
        | true => rfl
      · rfl
    · rfl
  · simp [den_fail] at h
end Go.Proofs.Ythjldfmlclpdbaa

set_option maxRecDepth 100000
set_option linter.unusedSimpArgs false
set_option linter.unusedVariables false
namespace Go.Proofs.Ythjldfmlclpdbaa
open Go.Rx

def chk : List Bool → Tree Res → Tree Res
  | [], t => t
  | c :: cs, t => .ite c (chk cs t) .fail
theorem chk_denN : ∀ (cs : List Bool) (t : Tree Res), (∀ c ∈ cs, c = true) → (chk cs t).denN = t.denN
  | [], t, _ => rfl
  | c :: cs, t, h => by
    simp only [chk, denN_ite]
    rw [if_pos (h c (by simp)), chk_denN cs t fun d hd => h d (by simp [hd])]

def zeroHd : V := .agg [.int .i64 0, .int .i64 0, .int .i64 0, .int .i64 0, .int .u8 0, .int .u8 0, .int .u8 0, .int .u8 0, .int .u8 0, .int .u8 0, .int .u8 0, .int .u8 0, .int .i64 0, .int .i64 0, .int .i64 0]
def dTy (xs : List Int) : Int := xs.getD 0 0 % 16
def dFl (xs : List Int) : Int := xs.getD 6 0 * 256 + xs.getD 7 0
def dCo (xs : List Int) : Int := IntKind.i64.wrap (sumF 0 [xs.getD 8 0, xs.getD 9 0, xs.getD 10 0, xs.getD 11 0, xs.getD 12 0, xs.getD 13 0, xs.getD 14 0, xs.getD 15 0])
def dNum (xs : List Int) : Int := xs.getD 28 0 * 256 + xs.getD 29 0
def dSe (xs : List Int) : Int := xs.getD 30 0 * 256 + xs.getD 31 0
def dLo (xs : List Int) : Int := if xs.getD 33 0 > 127 then xs.getD 33 0 - 256 else xs.getD 33 0
def dSz (xs : List Int) : Int := xs.getD 2 0 * 256 + xs.getD 3 0
def hdV (xs : List Int) : V := .agg [.int .i64 (dTy xs), .int .i64 (xs.getD 4 0), .int .i64 (dFl xs), .int .i64 (dCo xs), .int .u8 (xs.getD 20 0), .int .u8 (xs.getD 21 0), .int .u8 (xs.getD 22 0), .int .u8 (xs.getD 23 0),
  .int .u8 (xs.getD 24 0), .int .u8 (xs.getD 25 0), .int .u8 (xs.getD 26 0), .int .u8 (xs.getD 27 0), .int .i64 (dNum xs), .int .i64 (dSe xs), .int .i64 (dLo xs)]
/-- What is amiss first. -/
def decErr (xs : List Int) : Int :=
  if xs.length < 34 then 50 else if xs.getD 1 0 ≠ 2 then 51 else if longZ (dTy xs) = 0 then 52 else if dSz xs ≠ longZ (dTy xs) ∨ (xs.length : Int) ≠ longZ (dTy xs) then 53
  else if resB8 xs then 54 else if ¬ flagsB (dTy xs) (dFl xs) = true then 55 else if ¬ sourcedB (dNum xs) = true then 56 else 0
def E (n : Int) : Tree Res := .leaf ⟨.tup [zeroHd, .int .i64 n], [none], []⟩
def decT (xs : List Int) : Tree Res := .ite (decErr xs == 0) (.leaf ⟨.tup [hdV xs, .int .i64 0], [none], []⟩) (E (decErr xs))
def decS : Rx.Spec := fun a b => match a, b with
  | [.sl 0 0 0 1 l cap], [.ints .u8 xs] => .need (allByte xs && decide (l = xs.length) && decide (l ≤ 9223372036854775806)) (decT xs)
  | _, _ => .fail

theorem wrap8s {x : Int} (h0 : 0 ≤ x) (h1 : x ≤ 255) : IntKind.i8.wrap x = if x > 127 then x - 256 else x := by
  show (if (true && decide (x % 256 ≥ 128)) = true then x % 256 - 256 else x % 256) = _
  have e : x % 256 = x := by omega
  simp only [e, Bool.true_and, decide_eq_true_eq]
  by_cases h : x > 127
  · rw [if_pos h, if_pos (by omega)]
  · rw [if_neg h, if_neg (by omega)]

theorem dec_G : GammaOK P [(19, longS), (50, flagsS), (51, sourcedS), (55, numberS), (40, getS), (56, reservedS)] :=
  .cons long_ok (.cons flagged_ok (.cons sourced_ok (.cons number_ok (.cons get_ok (.cons reserved_ok (.nil P))))))

theorem decode_ok : SpecOK P 35 decS := by
  refine specOK_fast dec_G hm (Λ := loopsOf []) Try.func35 (by kernel_rfl) (LoopsOK.nil (by kernel_rfl)) ?_
  intro args bs r h
  unfold decS at h
  split at h
  · rename_i l cap xs
    rw [den_need] at h
    obtain ⟨hf, h⟩ := h
    simp only [Bool.and_eq_true, decide_eq_true_eq] at hf
    obtain ⟨⟨h1, rfl⟩, h3⟩ := hf
    rw [← denN_of h]
    rw [show (fFn P (specsOf [(19, longS), (50, flagsS), (51, sourcedS), (55, numberS), (40, getS), (56, reservedS)]) (loopsOf []) Try.f35 [.sl 0 0 0 1 xs.length cap] [.ints .u8 xs]).denN =
      Tree.denN (Tree.ite (decide ((xs.length : Int) < 34)) (E 50)
        (chk [true && decide (0 < (xs.length : Int)), decide (1 ≤ xs.length), true && decide (4 < (xs.length : Int)), decide (5 ≤ xs.length), true && decide (8 ≤ (xs.length : Int)), allByte xs && decide (8 ≤ xs.length) && true,
          true && decide (16 ≤ (xs.length : Int)), allByte xs && decide (16 ≤ xs.length) && true, true && decide (32 ≤ (xs.length : Int)), allByte xs && decide (32 ≤ xs.length) && true, true && decide (33 < (xs.length : Int)), decide (34 ≤ xs.length),
          true && decide (30 ≤ (xs.length : Int)), allByte xs && true && decide (30 ≤ xs.length), true && decide (4 ≤ (xs.length : Int)), allByte xs && decide (4 ≤ xs.length) && true, true && decide (1 < (xs.length : Int)), decide (2 ≤ xs.length)]
        (Tree.ite (xs.getD 1 0 != 2) (E 51)
          (Tree.ite (longZ (IntKind.i64.wrap (bAnd IntKind.u8 (xs.getD 0 0) 15)) == 0) (E 52)
            (Tree.ite (IntKind.i64.wrap (sumF 0 [xs.getD 2 0, xs.getD 3 0]) != longZ (IntKind.i64.wrap (bAnd IntKind.u8 (xs.getD 0 0) 15))) (E 53)
              (Tree.ite (IntKind.i64.wrap (sumF 0 [xs.getD 2 0, xs.getD 3 0]) != (xs.length : Int)) (E 53)
                (chk [allByte xs && decide (xs.length ≤ xs.length) && decide (34 ≤ xs.length)]
                  (Tree.ite (resB8 xs) (E 54)
                    (chk [inI64 (IntKind.i64.wrap (sumF 0 [xs.getD 6 0, xs.getD 7 0]))]
                      (Tree.ite (!flagsB (IntKind.i64.wrap (bAnd IntKind.u8 (xs.getD 0 0) 15)) (IntKind.i64.wrap (sumF 0 [xs.getD 6 0, xs.getD 7 0]))) (E 55)
                        (Tree.ite (!sourcedB (xs.getD 28 0 * 256 + xs.getD 29 0)) (E 56)
                          (Tree.leaf ⟨.tup [.agg [.int .i64 (IntKind.i64.wrap (bAnd IntKind.u8 (xs.getD 0 0) 15)), .int .i64 (IntKind.i64.wrap (xs.getD 4 0)), .int .i64 (IntKind.i64.wrap (sumF 0 [xs.getD 6 0, xs.getD 7 0])),
                            .int .i64 (IntKind.i64.wrap (sumF 0 [xs.getD 8 0, xs.getD 9 0, xs.getD 10 0, xs.getD 11 0, xs.getD 12 0, xs.getD 13 0, xs.getD 14 0, xs.getD 15 0])),
                            .int .u8 (xs.getD 20 0), .int .u8 (xs.getD 21 0), .int .u8 (xs.getD 22 0), .int .u8 (xs.getD 23 0), .int .u8 (xs.getD 24 0), .int .u8 (xs.getD 25 0), .int .u8 (xs.getD 26 0), .int .u8 (xs.getD 27 0),
                            .int .i64 (xs.getD 28 0 * 256 + xs.getD 29 0), .int .i64 (IntKind.i64.wrap (sumF 0 [xs.getD 30 0, xs.getD 31 0])), .int .i64 (IntKind.i64.wrap (IntKind.i8.wrap (xs.getD 33 0)))], .int .i64 0], [none], []⟩)))))))))))) from by kernel_rfl]
    have b0 := allByte_getD h1 0
    have b2 := allByte_getD h1 2
    have b3 := allByte_getD h1 3
    have b4 := allByte_getD h1 4
    have b6 := allByte_getD h1 6
    have b7 := allByte_getD h1 7
    have b30 := allByte_getD h1 30
    have b31 := allByte_getD h1 31
    have b33 := allByte_getD h1 33
    have e0 : IntKind.i64.wrap (bAnd IntKind.u8 (xs.getD 0 0) 15) = dTy xs := by
      rw [show bAnd IntKind.u8 (xs.getD 0 0) 15 = xs.getD 0 0 % 16 from u8_and15 _ b0.1 (by omega)]
      exact wrap64_id (by omega) (by omega)
    have s2 (a b : Int) (ha : 0 ≤ a ∧ a ≤ 255) (hb : 0 ≤ b ∧ b ≤ 255) : IntKind.i64.wrap (sumF 0 [a, b]) = a * 256 + b := by
      simp only [sumF, List.foldl_cons, List.foldl_nil]
      rw [wrap64_id (by omega) (by omega)]; omega
    have e1 := s2 _ _ b2 b3
    have e2 := s2 _ _ b6 b7
    have e3 := s2 _ _ b30 b31
    have e4 : IntKind.i64.wrap (IntKind.i8.wrap (xs.getD 33 0)) = dLo xs := by
      have : IntKind.i8.wrap (xs.getD 33 0) = dLo xs := by
        unfold dLo
        exact wrap8s b33.1 b33.2
      rw [this]
      unfold dLo
      split
      · exact wrap64_id (by omega) (by omega)
      · exact wrap64_id (by omega) (by omega)
    have e5 : IntKind.i64.wrap (xs.getD 4 0) = xs.getD 4 0 := wrap64_id (by omega) (by omega)
    rw [e0, e1, e2, e3, e4, e5]
    unfold decT decErr
    by_cases hl : xs.length < 34
    · rw [denN_ite, if_pos (by simp; omega), if_pos hl]; rfl
    · rw [denN_ite, if_neg (by simp; omega), if_neg hl, chk_denN]
      · rw [denN_ite]
        by_cases c1 : xs.getD 1 0 ≠ 2
        · rw [if_pos (by simpa using c1), if_pos c1]; rfl
        rw [if_neg (by simpa using c1), if_neg c1, denN_ite]
        by_cases c2 : longZ (dTy xs) = 0
        · rw [if_pos (by simpa using c2), if_pos c2]; rfl
        rw [if_neg (by simpa using c2), if_neg c2, denN_ite, denN_ite]
        by_cases c3 : dSz xs ≠ longZ (dTy xs) ∨ (xs.length : Int) ≠ longZ (dTy xs)
        · rw [if_pos c3]
          by_cases c3' : dSz xs ≠ longZ (dTy xs)
          · rw [if_pos (by simpa [dSz] using c3')]; rfl
          · rw [if_neg (by simpa [dSz] using c3'), if_pos]
            · rfl
            · simp only [dSz] at c3 c3'
              simp only [bne_iff_ne]
              omega
        rw [if_neg c3]
        simp only [dSz] at c3
        rw [if_neg (by simp only [bne_iff_ne]; omega), if_neg (by simp only [bne_iff_ne]; omega), chk_denN _ _ (by simp [h1]; omega), denN_ite]
        by_cases c4 : resB8 xs = true
        · rw [if_pos c4, if_pos c4]; rfl
        rw [if_neg c4, if_neg c4, chk_denN _ _ (by
          intro c hc
          simp only [List.mem_singleton] at hc
          subst hc
          simp only [inI64, Bool.and_eq_true, decide_eq_true_eq]
          omega), denN_ite]
        by_cases c5 : flagsB (dTy xs) (dFl xs) = true
        · rw [if_neg (by simpa [dFl] using c5), if_neg (by simpa using c5), denN_ite]
          by_cases c6 : sourcedB (dNum xs) = true
          · rw [if_neg (by simpa [dNum] using c6), if_neg (by simpa using c6)]; rfl
          · rw [if_pos (by simpa [dNum] using c6), if_pos (by simpa using c6)]; rfl
        · rw [if_pos (by simpa [dFl] using c5), if_pos (by simpa using c5)]; rfl
      · intro c hc
        simp only [List.mem_cons, List.not_mem_nil, or_false] at hc
        rcases hc with rfl | rfl | rfl | rfl | rfl | rfl | rfl | rfl | rfl | rfl | rfl | rfl | rfl | rfl | rfl | rfl | rfl | rfl <;> simp [h1] <;> omega
  · simp [den_fail] at h
end Go.Proofs.Ythjldfmlclpdbaa

set_option maxRecDepth 100000
set_option linter.unusedSimpArgs false
set_option linter.unusedVariables false
namespace Go.Proofs.Ythjldfmlclpdbaa
open Go.Rx

theorem refDec_G : GammaOK P [(47, longS), (54, flagsS), (57, valueS), (58, signedS), (43, getS)] :=
  .cons refLong_ok (.cons refFlags_ok (.cons value_ok (.cons signed_ok (.cons refGet_ok (.nil P)))))

theorem refDecode_ok : SpecOK P 41 decS := by
  refine specOK_fast refDec_G hm (Λ := loopsOf []) Try.func41 (by kernel_rfl) (LoopsOK.nil (by kernel_rfl)) ?_
  intro args bs r h
  unfold decS at h
  split at h
  · rename_i l cap xs
    rw [den_need] at h
    obtain ⟨hf, h⟩ := h
    simp only [Bool.and_eq_true, decide_eq_true_eq] at hf
    obtain ⟨⟨h1, rfl⟩, h3⟩ := hf
    rw [← denN_of h]
    let v1 (k : Nat) : Bool := allByte xs && decide (0 + xs.length ≤ xs.length) && true && decide ((k : Int) < (xs.length : Int)) && decide (xs.length ≤ 9223372036854775806)
    let R (lo : Int) : Tree Res :=
      chk [true && decide (30 ≤ (xs.length : Int)), allByte xs && true && decide (30 ≤ xs.length)]
        (Tree.ite (longZ ((IntKind.i64.wrap (xs.getD 0 0)).tmod 16) == 0) (E 52)
          (chk [v1 3]
            (Tree.ite (xs.getD 2 0 * 256 + xs.getD 3 0 != longZ ((IntKind.i64.wrap (xs.getD 0 0)).tmod 16)) (E 53)
              (Tree.ite ((xs.length : Int) != longZ ((IntKind.i64.wrap (xs.getD 0 0)).tmod 16)) (E 53)
                (chk [true && decide (0 < (xs.length : Int)), decide (1 ≤ xs.length)] (Tree.ite (decide (xs.getD 0 0 > 15)) (E 54)
                  (chk [true && decide (5 < (xs.length : Int)), decide (6 ≤ xs.length)] (Tree.ite (xs.getD 5 0 != 0) (E 54)
                    (chk [true && decide (16 < (xs.length : Int)), decide (17 ≤ xs.length)] (Tree.ite (xs.getD 16 0 != 0) (E 54)
                      (chk [true && decide (17 < (xs.length : Int)), decide (18 ≤ xs.length)] (Tree.ite (xs.getD 17 0 != 0) (E 54)
                        (chk [true && decide (18 < (xs.length : Int)), decide (19 ≤ xs.length)] (Tree.ite (xs.getD 18 0 != 0) (E 54)
                          (chk [true && decide (19 < (xs.length : Int)), decide (20 ≤ xs.length)] (Tree.ite (xs.getD 19 0 != 0) (E 54)
                            (chk [true && decide (32 < (xs.length : Int)), decide (33 ≤ xs.length)] (Tree.ite (xs.getD 32 0 != 0) (E 54)
                              (chk [inI64 (xs.getD 6 0 * 256 + xs.getD 7 0)] (Tree.ite (!flagsB ((IntKind.i64.wrap (xs.getD 0 0)).tmod 16) (xs.getD 6 0 * 256 + xs.getD 7 0)) (E 55)
                                (Tree.ite (xs.getD 28 0 * 256 + xs.getD 29 0 == 0) (E 56) (Tree.ite (xs.getD 28 0 * 256 + xs.getD 29 0 == 65535) (E 56)
                                  (Tree.leaf ⟨.tup [.agg [.int .i64 ((IntKind.i64.wrap (xs.getD 0 0)).tmod 16), .int .i64 (IntKind.i64.wrap (xs.getD 4 0)), .int .i64 (xs.getD 6 0 * 256 + xs.getD 7 0),
                                    .int .i64 (IntKind.i64.wrap (sumF 0 [xs.getD 8 0, xs.getD 9 0, xs.getD 10 0, xs.getD 11 0, xs.getD 12 0, xs.getD 13 0, xs.getD 14 0, xs.getD 15 0])),
                                    .int .u8 (xs.getD 20 0), .int .u8 (xs.getD 21 0), .int .u8 (xs.getD 22 0), .int .u8 (xs.getD 23 0), .int .u8 (xs.getD 24 0), .int .u8 (xs.getD 25 0), .int .u8 (xs.getD 26 0), .int .u8 (xs.getD 27 0),
                                    .int .i64 (xs.getD 28 0 * 256 + xs.getD 29 0), .int .i64 (xs.getD 30 0 * 256 + xs.getD 31 0), .int .i64 lo], .int .i64 0], [none], []⟩)))))))))))))))))))))))
    rw [show (fFn P (specsOf [(47, longS), (54, flagsS), (57, valueS), (58, signedS), (43, getS)]) (loopsOf []) Try.f41 [.sl 0 0 0 1 xs.length cap] [.ints .u8 xs]).denN =
      Tree.denN (Tree.ite (decide ((xs.length : Int) < 34)) (E 50)
        (chk [true && decide (1 < (xs.length : Int)), decide (2 ≤ xs.length)]
          (Tree.ite (xs.getD 1 0 != 2) (E 51)
            (chk [true && decide (0 < (xs.length : Int)), decide (1 ≤ xs.length), true && decide (4 < (xs.length : Int)), decide (5 ≤ xs.length), v1 7, true && decide (16 ≤ (xs.length : Int)), allByte xs && true && decide (16 ≤ xs.length), v1 31,
              true && decide (33 < (xs.length : Int)), decide (34 ≤ xs.length)]
              (Tree.ite (decide (IntKind.i64.wrap (xs.getD 33 0) > 127)) (R (IntKind.i64.wrap (IntKind.i64.wrap (xs.getD 33 0) - 256))) (R (IntKind.i64.wrap (xs.getD 33 0)))))))) from by kernel_rfl]
    have b0 := allByte_getD h1 0
    have b4 := allByte_getD h1 4
    have b6 := allByte_getD h1 6
    have b7 := allByte_getD h1 7
    have b28 := allByte_getD h1 28
    have b29 := allByte_getD h1 29
    have b33 := allByte_getD h1 33
    have e0 : (IntKind.i64.wrap (xs.getD 0 0)).tmod 16 = dTy xs := by
      rw [wrap64_id (by omega) (by omega), Int.tmod_eq_emod_of_nonneg (by omega)]; rfl
    have e5 : IntKind.i64.wrap (xs.getD 4 0) = xs.getD 4 0 := wrap64_id (by omega) (by omega)
    by_cases hl : xs.length < 34
    · unfold decT decErr
      rw [denN_ite, if_pos (by simp; omega), if_pos hl]; rfl
    · have v1t : ∀ k : Nat, k < 34 → v1 k = true := by
        intro k hk
        simp only [v1, h1, Bool.true_and, Bool.and_eq_true, decide_eq_true_eq, and_true]
        omega
      have hR : ∀ lo, lo = dLo xs → xs.getD 1 0 = 2 → (R lo).denN = (decT xs).denN := by
        intro lo hlo c1
        simp only [R]
        rw [chk_denN _ _ (by intro c hc; simp only [List.mem_cons, List.not_mem_nil, or_false] at hc; rcases hc with rfl | rfl <;> simp [h1] <;> omega)]
        rw [e0, e5]
        unfold decT decErr
        rw [if_neg hl, if_neg (by omega), denN_ite]
        by_cases c2 : longZ (dTy xs) = 0
        · rw [if_pos (by simpa using c2), if_pos c2]; rfl
        rw [if_neg (by simpa using c2), if_neg c2, chk_denN _ _ (by simpa using v1t 3 (by omega)), denN_ite, denN_ite]
        by_cases c3 : dSz xs ≠ longZ (dTy xs) ∨ (xs.length : Int) ≠ longZ (dTy xs)
        · rw [if_pos c3]
          by_cases c3' : dSz xs ≠ longZ (dTy xs)
          · rw [if_pos (by simpa [dSz] using c3')]; rfl
          · rw [if_neg (by simpa [dSz] using c3'), if_pos]
            · rfl
            · simp only [dSz] at c3 c3'
              simp only [bne_iff_ne]
              omega
        rw [if_neg c3]
        simp only [dSz] at c3
        rw [if_neg (by simp only [bne_iff_ne]; omega), if_neg (by simp only [bne_iff_ne]; omega)]
        have ch : ∀ (a : Int) (b : Nat) (t : Tree Res), a < 34 → b ≤ 34 → (chk [true && decide (a < (xs.length : Int)), decide (b ≤ xs.length)] t).denN = t.denN := by
          intro a b t ha hb
          refine chk_denN _ _ ?_
          intro c hc
          simp only [List.mem_cons, List.not_mem_nil, or_false] at hc
          rcases hc with rfl | rfl <;> simp <;> omega
        rw [ch 0 1 _ (by omega) (by omega), denN_ite, ch 5 6 _ (by omega) (by omega), denN_ite, ch 16 17 _ (by omega) (by omega), denN_ite, ch 17 18 _ (by omega) (by omega), denN_ite, ch 18 19 _ (by omega) (by omega), denN_ite, ch 19 20 _ (by omega) (by omega), denN_ite, ch 32 33 _ (by omega) (by omega), denN_ite]
        have ef : (xs.getD 0 0 / 16 != 0) = decide (xs.getD 0 0 > 15) := by
          rw [Bool.eq_iff_iff]
          simp only [bne_iff_ne, decide_eq_true_eq]
          omega
        rw [chk_denN _ _ (by
          intro c hc
          simp only [List.mem_singleton] at hc
          subst hc
          simp only [inI64, Bool.and_eq_true, decide_eq_true_eq]
          omega)]
        simp only [denN_ite]
        unfold resB8
        rw [ef]
        cases decide (xs.getD 0 0 > 15)
        · cases xs.getD 5 0 != 0
          · cases xs.getD 16 0 != 0
            · cases xs.getD 17 0 != 0
              · cases xs.getD 18 0 != 0
                · cases xs.getD 19 0 != 0
                  · cases xs.getD 32 0 != 0
                    · simp only [Bool.or_false, Bool.false_eq_true, if_false]
                      cases c5 : flagsB (dTy xs) (dFl xs) with
                      | true =>
                        have c5' : flagsB (dTy xs) (xs.getD 6 0 * 256 + xs.getD 7 0) = true := c5
                        cases c6 : sourcedB (dNum xs) with
                        | true =>
                          have c6' : 1 ≤ dNum xs ∧ dNum xs < 65535 := by simpa [sourcedB] using c6
                          unfold dNum at c6'
                          have n0 : (xs.getD 28 0 * 256 + xs.getD 29 0 == 0) = false := by rw [beq_eq_false_iff_ne]; omega
                          have n1 : (xs.getD 28 0 * 256 + xs.getD 29 0 == 65535) = false := by rw [beq_eq_false_iff_ne]; omega
                          simp only [c5', n0, n1, Bool.not_true, Bool.false_eq_true, if_false, not_true, hlo]
                          rfl
                        | false =>
                          have c6' : ¬ (1 ≤ dNum xs ∧ dNum xs < 65535) := by
                            intro hh
                            have : sourcedB (dNum xs) = true := by simpa [sourcedB] using hh
                            rw [c6] at this
                            simp at this
                          unfold dNum at c6'
                          by_cases c7 : xs.getD 28 0 * 256 + xs.getD 29 0 = 0
                          · have n0 : (xs.getD 28 0 * 256 + xs.getD 29 0 == 0) = true := by rw [beq_iff_eq]; omega
                            simp only [c5', n0, Bool.not_true, Bool.false_eq_true, if_false, not_true, if_true, not_false_iff]
                            rfl
                          · have n0 : (xs.getD 28 0 * 256 + xs.getD 29 0 == 0) = false := by rw [beq_eq_false_iff_ne]; omega
                            have n1 : (xs.getD 28 0 * 256 + xs.getD 29 0 == 65535) = true := by rw [beq_iff_eq]; omega
                            simp only [c5', n0, n1, Bool.not_true, Bool.false_eq_true, if_false, not_true, if_true, not_false_iff]
                            rfl
                      | false =>
                        have c5' : flagsB (dTy xs) (xs.getD 6 0 * 256 + xs.getD 7 0) = false := c5
                        simp only [c5', Bool.not_false, Bool.false_eq_true, if_true, not_false_iff]
                        rfl
                    · rfl
                  · rfl
                · rfl
              · rfl
            · rfl
          · rfl
        · rfl
      rw [denN_ite, if_neg (by simp; omega), chk_denN _ _ (by intro c hc; simp only [List.mem_cons, List.not_mem_nil, or_false] at hc; rcases hc with rfl | rfl <;> simp <;> omega), denN_ite]
      by_cases c1 : xs.getD 1 0 ≠ 2
      · unfold decT decErr
        rw [if_pos (by simpa using c1), if_neg hl, if_pos c1]; rfl
      · rw [if_neg (by simpa using c1), chk_denN]
        · have w33 := wrap64_id (n := xs.getD 33 0) (by omega) (by omega)
          have w33' := wrap64_id (n := xs.getD 33 0 - 256) (by omega) (by omega)
          simp only [w33, w33', denN_ite, decide_eq_true_eq]
          split
          · rename_i h33
            exact hR _ (by unfold dLo; rw [if_pos h33]) (by omega)
          · rename_i h33
            exact hR _ (by unfold dLo; rw [if_neg h33]) (by omega)
        · intro c hc
          simp only [List.mem_cons, List.not_mem_nil, or_false] at hc
          rcases hc with rfl | rfl | rfl | rfl | rfl | rfl | rfl | rfl | rfl | rfl <;> first | exact v1t _ (by omega) | (simp [h1]; try omega)
  · simp [den_fail] at h
end Go.Proofs.Ythjldfmlclpdbaa
