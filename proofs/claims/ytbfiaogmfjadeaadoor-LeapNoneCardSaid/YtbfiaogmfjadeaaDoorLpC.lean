/- Layer 16: offsets, labels, times and notes of a table, by the program and by the document. The conditions stand in the specifications. -/
import Derived.Test.YtbfiaogmfjadeaaDoorLpB
import Derived.Test.YtbfiaogmfjadeaaDoorRxB
import Derived.Test.YtbfiaogmfjadeaaDoorLpA
set_option linter.unusedSimpArgs false
set_option linter.unusedVariables false
set_option linter.unnecessarySimpa false
set_option linter.unusedSectionVars false
set_option maxRecDepth 100000
set_option linter.unusedSimpArgs false
set_option linter.unusedVariables false
namespace Go.Proofs.YtbfiaogmfjadeaaDoor
open Go.Rx
theorem rr_round (n : Nat) (f k : Int) (rs : List (List V)) : (evRound P (specsOf []) (loopsOf []) 64 [1, 3] [2] (loopAt Tryd.f12 0) [.ptr 0 0 0 0, .int .i64 k] [.cells [.int .i64 f, .sl 1 0 0 2 n none], .rows lpK rs]).den = Tree.den (Tree.ite (decide (k < (↑n : Int))) (Tree.ite (decide (0 ≤ k) && decide (k < (↑n : Int))) (Tree.ite (decide (0 + k.toNat < rs.length)) (Tree.ite (decide ((V.toInt ((rs.getD (0 + k.toNat) []).getD 0 V.any)) < 1)) (Tree.leaf { e := Ex.ret, vs := [V.fls], upd := [none, none], new := [] }) (Tree.ite (decide ((V.toInt ((rs.getD (0 + k.toNat) []).getD 0 V.any)) > 2932895)) (Tree.leaf { e := Ex.ret, vs := [V.fls], upd := [none, none], new := [] }) (Tree.ite ((V.toInt ((rs.getD (0 + k.toNat) []).getD 1 V.any)) != 1) (Tree.ite ((V.toInt ((rs.getD (0 + k.toNat) []).getD 1 V.any)) != -1) (Tree.leaf { e := Ex.ret, vs := [V.fls], upd := [none, none], new := [] }) (Tree.ite (decide (k > 0)) (Tree.ite (decide (0 ≤ IntKind.i64.wrap (k - 1)) && decide (IntKind.i64.wrap (k - 1) < (↑n : Int))) (Tree.ite (decide (0 + (IntKind.i64.wrap (k - 1)).toNat < rs.length)) (Tree.ite (decide ((V.toInt ((rs.getD (0 + k.toNat) []).getD 0 V.any)) < IntKind.i64.wrap ((V.toInt ((rs.getD (0 + (IntKind.i64.wrap (k - 1)).toNat) []).getD 0 V.any)) + 2))) (Tree.leaf { e := Ex.ret, vs := [V.fls], upd := [none, none], new := [] }) (Tree.leaf { e := Ex.nrm, vs := [V.ptr 0 0 0 0, V.int IntKind.i64 (IntKind.i64.wrap (k + 1))], upd := [none, none], new := [] })) Tree.fail) Tree.fail) (Tree.leaf { e := Ex.nrm, vs := [V.ptr 0 0 0 0, V.int IntKind.i64 (IntKind.i64.wrap (k + 1))], upd := [none, none], new := [] }))) (Tree.ite (decide (k > 0)) (Tree.ite (decide (0 ≤ IntKind.i64.wrap (k - 1)) && decide (IntKind.i64.wrap (k - 1) < (↑n : Int))) (Tree.ite (decide (0 + (IntKind.i64.wrap (k - 1)).toNat < rs.length)) (Tree.ite (decide ((V.toInt ((rs.getD (0 + k.toNat) []).getD 0 V.any)) < IntKind.i64.wrap ((V.toInt ((rs.getD (0 + (IntKind.i64.wrap (k - 1)).toNat) []).getD 0 V.any)) + 2))) (Tree.leaf { e := Ex.ret, vs := [V.fls], upd := [none, none], new := [] }) (Tree.leaf { e := Ex.nrm, vs := [V.ptr 0 0 0 0, V.int IntKind.i64 (IntKind.i64.wrap (k + 1))], upd := [none, none], new := [] })) Tree.fail) Tree.fail) (Tree.leaf { e := Ex.nrm, vs := [V.ptr 0 0 0 0, V.int IntKind.i64 (IntKind.i64.wrap (k + 1))], upd := [none, none], new := [] }))))) Tree.fail) Tree.fail) (Tree.leaf { e := Ex.exit 0, vs := [V.any], upd := [none, none], new := [] })) := by
  kernel_rfl
theorem rr_step {n : Nat} {f : Int} {k : Nat} {rs : List (List V)} (hn : n = rs.length) (hk : k < n) (hn2 : n ≤ 1000000) :
    (evRound P (specsOf []) (loopsOf []) 64 [1, 3] [2] (loopAt Tryd.f12 0) [.ptr 0 0 0 0, .int .i64 k] [.cells [.int .i64 f, .sl 1 0 0 2 n none], .rows lpK rs]).den =
    some (if rtB (lps rs) k = true then ⟨.nrm, [.ptr 0 0 0 0, .int .i64 ((k + 1 : Nat) : Int)], [none, none], []⟩ else ⟨.ret, [.fls], [none, none], []⟩) := by
  rw [rr_round]
  have w6 : IntKind.i64.wrap ((k : Int) + 1) = ((k + 1 : Nat) : Int) := by rw [wrap64_id (by omega) (by omega)]; omega
  simp only [rtB, inDay, lps_get, lpOf, Nat.zero_add, Int.toNat_natCast, w6]
  rw [decide_eq_true (show (k : Int) < (n : Int) by omega), decide_eq_true (show (0 : Int) ≤ k by omega), decide_eq_true (show k < rs.length by omega)]
  generalize V.toInt ((rs.getD k []).getD 0 V.any) = d
  generalize V.toInt ((rs.getD k []).getD 1 V.any) = s
  by_cases c1 : d < 1
  · rw [if_neg (by simp; omega), decide_eq_true c1]; rfl
  by_cases c2 : d > 2932895
  · rw [if_neg (by simp; omega), decide_eq_false c1, decide_eq_true c2]; rfl
  rw [decide_eq_false c1, decide_eq_false c2, decide_eq_true (show d ≥ 1 by omega), decide_eq_true (show d ≤ 2932895 by omega)]
  cases k with
  | zero =>
    have e : decide (((0 : Nat) : Int) > 0) = false := by decide
    rw [e]
    by_cases c3 : s = 1
    · rw [show (s != 1) = false by simp [c3], show (s == 1) = true by simp [c3]]; rfl
    · rw [show (s != 1) = true by simp [c3], show (s == 1) = false by simp [c3]]
      by_cases c4 : s = -1
      · rw [show (s != -1) = false by simp [c4], show (s == -1) = true by simp [c4]]; rfl
      · rw [show (s != -1) = true by simp [c4], show (s == -1) = false by simp [c4]]; rfl
  | succ k =>
    have w : IntKind.i64.wrap (((k + 1 : Nat) : Int) - 1) = (k : Int) := by rw [wrap64_id (by omega) (by omega)]; omega
    rw [decide_eq_true (show ((k + 1 : Nat) : Int) > 0 by omega), w, decide_eq_true (show (0 : Int) ≤ k by omega), decide_eq_true (show (k : Int) < (n : Int) by omega)]
    simp only [Int.toNat_natCast, Nat.add_sub_cancel]
    rw [decide_eq_true (show k < rs.length by omega)]
    have ek : (k + 1 == 0) = false := rfl
    rw [ek]
    by_cases c5 : d < IntKind.i64.wrap (V.toInt ((rs.getD k []).getD 0 V.any) + 2)
    · have c6 : ¬ d ≥ IntKind.i64.wrap (V.toInt ((rs.getD k []).getD 0 V.any) + 2) := by omega
      simp only [eq_true c5, eq_false c6, decide_true, decide_false]
      by_cases c3 : s = 1
      · rw [show (s != 1) = false by simp [c3], show (s == 1) = true by simp [c3]]; rfl
      · rw [show (s != 1) = true by simp [c3], show (s == 1) = false by simp [c3]]
        by_cases c4 : s = -1
        · rw [show (s != -1) = false by simp [c4], show (s == -1) = true by simp [c4]]; rfl
        · rw [show (s != -1) = true by simp [c4], show (s == -1) = false by simp [c4]]; rfl
    · have c6 : d ≥ IntKind.i64.wrap (V.toInt ((rs.getD k []).getD 0 V.any) + 2) := by omega
      simp only [eq_false c5, eq_true c6, decide_true, decide_false]
      by_cases c3 : s = 1
      · rw [show (s != 1) = false by simp [c3], show (s == 1) = true by simp [c3]]; rfl
      · rw [show (s != 1) = true by simp [c3], show (s == 1) = false by simp [c3]]
        by_cases c4 : s = -1
        · rw [show (s != -1) = false by simp [c4], show (s == -1) = true by simp [c4]]; rfl
        · rw [show (s != -1) = true by simp [c4], show (s == -1) = false by simp [c4]]; rfl
theorem drop_get {ls : List Lp} {k : Nat} {x : Lp} {xs : List Lp} (h : ls.drop k = x :: xs) : ls.getD k ⟨0, 0⟩ = x ∧ ls.drop (k + 1) = xs := by
  refine ⟨?_, by rw [← List.drop_drop, h]; rfl⟩
  have := congrArg (fun l => l.getD 0 ⟨0, 0⟩) h
  simpa [List.getD_eq_getElem?_getD] using this
theorem rr_all {n : Nat} {f : Int} {rs : List (List V)} (hn : n = rs.length) (hn2 : n ≤ 1000000) : ∀ (rest : List Lp) (k : Nat), (lps rs).drop k = rest → k + rest.length = n →
    (∀ d, prevOf (lps rs) k = some d → 1 ≤ d ∧ d ≤ 2932895) →
    (loopN P (specsOf []) (loopsOf []) 64 [1, 3] [2] (loopAt Tryd.f12 0) (pre (prevOf (lps rs) k) rest + 1) [.ptr 0 0 0 0, .int .i64 k] [.cells [.int .i64 f, .sl 1 0 0 2 n none], .rows lpK rs]).den =
    some (if pre (prevOf (lps rs) k) rest = rest.length then ⟨.exit 0, [.any], [none, none], []⟩ else ⟨.ret, [.fls], [none, none], []⟩) := by
  intro rest
  induction rest with
  | nil =>
    intro k hr hk _
    have hx := rr_round n f k rs
    rw [decide_eq_false (show ¬ (k : Int) < (n : Int) by simp at hk; omega)] at hx
    exact loopN_end hx (by show Ex.exit 0 ≠ Ex.nrm; decide)
  | cons x xs ih =>
    intro k hr hk hp
    simp only [List.length_cons] at hk
    obtain ⟨hx, hd⟩ := drop_get hr
    have hq := rt_okL hp
    rw [hx] at hq
    have st := rr_step (f := f) hn (show k < n by omega) hn2
    by_cases hg : okL (prevOf (lps rs) k) x = true
    · have e1 : pre (prevOf (lps rs) k) (x :: xs) = pre (some x.day) xs + 1 := by rw [pre, if_pos hg]
      obtain ⟨d1, d2, d3, d4⟩ := okL_iff.1 hg
      have hpn : prevOf (lps rs) (k + 1) = some x.day := by rw [prevOf, hx]
      have ih' := ih (k + 1) hd (by omega) (by rw [hpn]; intro d h; cases h; omega)
      rw [hpn] at ih'
      rw [hq, if_pos hg] at st
      rw [e1]
      refine loopN_step st rfl (vals' := [.ptr 0 0 0 0, .int .i64 ((k + 1 : Nat) : Int)]) (bs' := [.cells [.int .i64 f, .sl 1 0 0 2 n none], .rows lpK rs]) (by kernel_rfl) (by kernel_rfl) (by kernel_rfl) ih' ?_
      by_cases he : pre (some x.day) xs = xs.length
      · rw [if_pos he, if_pos (by simp [he])]; kernel_rfl
      · rw [if_neg he, if_neg (by simp [he])]; kernel_rfl
    · have e1 : pre (prevOf (lps rs) k) (x :: xs) = 0 := by rw [pre, if_neg hg]
      rw [e1, if_neg (by simp)]
      rw [hq, if_neg hg] at st
      exact loopN_end st (by show Ex.ret ≠ Ex.nrm; decide)
def rrF (vals : List V) (bs : List Blk) : Tree LRes := match vals, bs with
  | [.ptr 0 0 0 0, .int .i64 k], [.cells [.int .i64 f, .sl 1 0 0 2 n none], .rows [.int .i64, .int .i64] rs] =>
    .need (decide (n = rs.length) && decide (k = 0) && decide (n ≤ 1000000)) (.ite (decide (pre none (lps rs) = n)) (.leaf ⟨.exit 0, [.any], [none, none], []⟩) (.leaf ⟨.ret, [.fls], [none, none], []⟩))
  | _, _ => .fail
def rrL : LSpec := ⟨64, [1, 3], [2], rrF⟩
theorem rr_loop : LoopOK P (loopAt Tryd.f12 0) rrL := by
  refine loop_ok (GammaOK.nil P) Go.Proofs.YtbfiaogmfjadeaaDoor.hm (Λ := loopsOf []) (LoopsOK.nil (by kernel_rfl)) _ ?_
  intro vals bs r h
  simp only [rrL, rrF] at h
  split at h
  · rename_i k f n rs
    rw [den_need] at h
    simp only [Bool.and_eq_true, decide_eq_true_eq] at h
    obtain ⟨⟨⟨h1, rfl⟩, h3⟩, h⟩ := h
    have := rr_all (f := f) h1 h3 (lps rs) 0 rfl (by rw [lps_len]; omega) (by intro d h; cases h)
    refine ⟨pre none (lps rs) + 1, ?_⟩
    refine this.trans ?_
    rw [denI, denLf, denLf] at h
    rw [← h, lps_len, ← h1]
    by_cases he : pre none (lps rs) = n
    · rw [if_pos (show pre (prevOf (lps rs) 0) (lps rs) = n from he), if_pos (by simpa using he)]
    · rw [if_neg (show ¬ pre (prevOf (lps rs) 0) (lps rs) = n from he), if_neg (by simpa using he)]
  · simp [den_fail] at h
def rrS : Rx.Spec := fun a b => match a, b with
  | [.agg [.int .i64 f, .sl 0 0 0 2 n none]], [.rows [.int .i64, .int .i64] rs] => .need (decide (n = rs.length)) (.leaf ⟨.bool (goodT f (lps rs)), [none], []⟩)
  | _, _ => .fail
theorem rr_ok : SpecOK P 12 rrS := by
  refine specOK_fast (GammaOK.nil P) hm (Λ := loopsOf [(4, rrL)]) Tryd.func12 (by kernel_rfl) (LoopsOK.one (by kernel_rfl) rr_loop) ?_
  intro args bs r h
  unfold rrS at h
  split at h
  · rename_i f n rs
    rw [den_need, denLf] at h
    simp only [Bool.and_eq_true, decide_eq_true_eq] at h
    obtain ⟨h1, h⟩ := h
    cases h
    rw [show (fFn P (specsOf []) (loopsOf [(4, rrL)]) Tryd.f12 [.agg [.int .i64 f, .sl 0 0 0 2 n none]] [.rows lpK rs]).denN = Tree.denN (Tree.ite (decide (f < 0)) (Tree.leaf { v := V.fls, upd := [none], new := [] }) (Tree.ite (decide (f > 30000)) (Tree.leaf { v := V.fls, upd := [none], new := [] }) (Tree.ite (decide ((↑n : Int) > 64)) (Tree.leaf { v := V.fls, upd := [none], new := [] }) (Tree.ite (decide (n = rs.length) && true && decide (n ≤ 1000000)) (Tree.ite (decide (pre none (lps rs) = n)) (Tree.leaf { v := V.tru, upd := [none], new := [] }) (Tree.leaf { v := V.fls, upd := [none], new := [] })) Tree.fail)))) from by kernel_rfl]
    simp only [denN_ite, denN_leaf, denN_fail]
    have hl := lps_len rs
    by_cases c1 : f < 0
    · rw [show goodT f (lps rs) = false by unfold goodT; rw [decide_eq_false (show ¬ 0 ≤ f by omega)]; rfl, decide_eq_true c1]; rfl
    by_cases c2 : f > 30000
    · rw [show goodT f (lps rs) = false by unfold goodT; rw [decide_eq_false (show ¬ f ≤ 30000 by omega), Bool.and_false]; rfl, decide_eq_false c1, decide_eq_true c2]; rfl
    by_cases c3 : (n : Int) > 64
    · rw [show goodT f (lps rs) = false by unfold goodT; rw [decide_eq_false (show ¬ (lps rs).length ≤ 64 by omega), Bool.and_false]; rfl, decide_eq_false c1, decide_eq_false c2, decide_eq_true c3]; rfl
    rw [decide_eq_false c1, decide_eq_false c2, decide_eq_false c3]
    simp only [decide_eq_true h1, decide_eq_true (show n ≤ 1000000 by omega)]
    by_cases c4 : pre none (lps rs) = n
    · rw [show goodT f (lps rs) = true from goodT_iff.2 (by omega), decide_eq_true c4]; rfl
    · rw [show goodT f (lps rs) = false by unfold goodT; rw [decide_eq_false (show ¬ pre none (lps rs) = (lps rs).length by omega), Bool.and_false], decide_eq_false c4]; rfl
  · simp [den_fail] at h
end Go.Proofs.YtbfiaogmfjadeaaDoor

set_option maxRecDepth 100000
set_option linter.unusedSimpArgs false
set_option linter.unusedVariables false
namespace Go.Proofs.YtbfiaogmfjadeaaDoor
open Go.Rx
/-- All leaps lie ahead of the time. -/
def lookE (f : Int) : List Lp → Int → Bool
  | [], _ => true
  | x :: xs, t =>
    if x.sign = 1 then
      if t = (x.day + 1) * 86400 + f then false
      else if t > (x.day + 1) * 86400 + f then lookE (f + 1) xs t else false
    else if t ≥ (x.day + 1) * 86400 - 1 + f then lookE (f - 1) xs t else false
def dZ (o : Option Int) : Int := match o with | some d => d | none => -1
def lkN : List Lp → Int → Int → Nat
  | [], _, _ => 0
  | x :: xs, f, t =>
    if x.sign = 1 then
      if t = (x.day + 1) * 86400 + f then 0
      else if t > (x.day + 1) * 86400 + f then lkN xs (f + 1) t + 1 else 0
    else if t ≥ (x.day + 1) * 86400 - 1 + f then lkN xs (f - 1) t + 1 else 0
theorem lk_round (n : Nat) (f t o k : Int) (rs : List (List V)) : (evRound P (specsOf []) (loopsOf []) 62 [1, 2, 6, 7] [4, 5, 6] (loopAt Tryd.f15 0) [.int .i64 t, .ptr 0 0 0 0, .int .i64 o, .int .i64 k] [.cells [.int .i64 f, .sl 1 0 0 2 n none], .rows lpK rs]).den = Tree.den (Tree.ite (decide (k < (↑n : Int))) (Tree.ite (decide (0 ≤ k) && decide (k < (↑n : Int))) (Tree.ite (decide (0 + k.toNat < rs.length)) (Tree.ite (decide (0 ≤ k) && decide (k < (↑n : Int))) (Tree.ite (decide (0 + k.toNat < rs.length)) (Tree.ite ((V.toInt ((rs.getD (0 + k.toNat) []).getD 1 V.any)) == 1) (Tree.ite (t == IntKind.i64.wrap (IntKind.i64.wrap (IntKind.i64.wrap ((V.toInt ((rs.getD (0 + k.toNat) []).getD 0 V.any)) + 1) * 86400) + o)) (Tree.ite (decide (0 ≤ k) && decide (k < (↑n : Int))) (Tree.ite (decide (0 + k.toNat < rs.length)) (Tree.leaf { e := Ex.ret, vs := [V.int IntKind.i64 o, V.int IntKind.i64 (V.toInt ((rs.getD (0 + k.toNat) []).getD 0 V.any)), V.int IntKind.i64 o], upd := [none, none], new := [] }) Tree.fail) Tree.fail) (Tree.ite (decide (t > IntKind.i64.wrap (IntKind.i64.wrap (IntKind.i64.wrap ((V.toInt ((rs.getD (0 + k.toNat) []).getD 0 V.any)) + 1) * 86400) + o))) (Tree.leaf { e := Ex.nrm, vs := [V.int IntKind.i64 t, V.ptr 0 0 0 0, V.int IntKind.i64 (IntKind.i64.wrap (o + 1)), V.int IntKind.i64 (IntKind.i64.wrap (k + 1))], upd := [none, none], new := [] }) (Tree.leaf { e := Ex.ret, vs := [V.int IntKind.i64 o, V.int IntKind.i64 (-1), V.int IntKind.i64 o], upd := [none, none], new := [] }))) (Tree.ite (decide (t ≥ IntKind.i64.wrap (IntKind.i64.wrap (IntKind.i64.wrap (IntKind.i64.wrap ((V.toInt ((rs.getD (0 + k.toNat) []).getD 0 V.any)) + 1) * 86400) - 1) + o))) (Tree.leaf { e := Ex.nrm, vs := [V.int IntKind.i64 t, V.ptr 0 0 0 0, V.int IntKind.i64 (IntKind.i64.wrap (o - 1)), V.int IntKind.i64 (IntKind.i64.wrap (k + 1))], upd := [none, none], new := [] }) (Tree.leaf { e := Ex.ret, vs := [V.int IntKind.i64 o, V.int IntKind.i64 (-1), V.int IntKind.i64 o], upd := [none, none], new := [] }))) Tree.fail) Tree.fail) Tree.fail) Tree.fail) (Tree.leaf { e := Ex.exit 0, vs := [V.any, V.any, V.int IntKind.i64 o], upd := [none, none], new := [] })) := by
  kernel_rfl
theorem lk_all {n : Nat} {f t : Int} {rs : List (List V)} (hn : n = rs.length) (hn2 : n ≤ 1000000) : ∀ (rest : List Lp) (k : Nat) (p : Option Int) (o : Int), (lps rs).drop k = rest → k + rest.length = n → pre p rest = rest.length →
    -2000000 ≤ o - rest.length → o + rest.length ≤ 2000000 →
    (loopN P (specsOf []) (loopsOf []) 62 [1, 2, 6, 7] [4, 5, 6] (loopAt Tryd.f15 0) (lkN rest o t + 1) [.int .i64 t, .ptr 0 0 0 0, .int .i64 o, .int .i64 k] [.cells [.int .i64 f, .sl 1 0 0 2 n none], .rows lpK rs]).den =
    some (if lookE o rest t = true then ⟨.exit 0, [.any, .any, .int .i64 (lookF o rest t).1], [none, none], []⟩ else ⟨.ret, [.int .i64 (lookF o rest t).1, .int .i64 (dZ (lookF o rest t).2), .int .i64 (lookF o rest t).1], [none, none], []⟩) := by
  intro rest
  induction rest with
  | nil =>
    intro k p o hr hk _ _ _
    have hx := lk_round n f t o k rs
    rw [decide_eq_false (show ¬ (k : Int) < (n : Int) by simp at hk; omega)] at hx
    exact loopN_end hx (by show Ex.exit 0 ≠ Ex.nrm; decide)
  | cons x xs ih =>
    intro k p o hr hk hp ho1 ho2
    simp only [List.length_cons] at hk ho1 ho2
    obtain ⟨hx, hd⟩ := drop_get hr
    rw [lps_get] at hx
    obtain ⟨hg, hp'⟩ := pre_cons hp
    obtain ⟨d1, d2, d3, d4⟩ := okL_iff.1 hg
    have e1 : V.toInt ((rs.getD k []).getD 0 V.any) = x.day := by rw [← hx]; rfl
    have e2 : V.toInt ((rs.getD k []).getD 1 V.any) = x.sign := by rw [← hx]; rfl
    have st := lk_round n f t o k rs
    have w1 : IntKind.i64.wrap (x.day + 1) = x.day + 1 := wrap64_id (by omega) (by omega)
    have w2 : IntKind.i64.wrap ((x.day + 1) * 86400) = (x.day + 1) * 86400 := wrap64_id (by omega) (by omega)
    have w3 : IntKind.i64.wrap ((x.day + 1) * 86400 + o) = (x.day + 1) * 86400 + o := wrap64_id (by omega) (by omega)
    have w4 : IntKind.i64.wrap ((x.day + 1) * 86400 - 1) = (x.day + 1) * 86400 - 1 := wrap64_id (by omega) (by omega)
    have w5 : IntKind.i64.wrap ((x.day + 1) * 86400 - 1 + o) = (x.day + 1) * 86400 - 1 + o := wrap64_id (by omega) (by omega)
    have w6 : IntKind.i64.wrap ((k : Int) + 1) = ((k + 1 : Nat) : Int) := by rw [wrap64_id (by omega) (by omega)]; omega
    have w7 : IntKind.i64.wrap (o + 1) = o + 1 := wrap64_id (by omega) (by omega)
    have w8 : IntKind.i64.wrap (o - 1) = o - 1 := wrap64_id (by omega) (by omega)
    simp only [Nat.zero_add, Int.toNat_natCast, e1, e2, w1, w2, w3, w4, w5, w6, w7, w8] at st
    rw [decide_eq_true (show (k : Int) < (n : Int) by omega), decide_eq_true (show (0 : Int) ≤ k by omega), decide_eq_true (show k < rs.length by omega)] at st
    by_cases c1 : x.sign = 1
    · rw [show (x.sign == 1) = true by simp [c1]] at st
      by_cases c2 : t = (x.day + 1) * 86400 + o
      · have q1 : lkN (x :: xs) o t = 0 := by rw [lkN, if_pos c1, if_pos c2]
        have q2 : lookE o (x :: xs) t = false := by rw [lookE, if_pos c1, if_pos c2]
        have q3 : lookF o (x :: xs) t = (o, some x.day) := by rw [lookF, if_pos c1, if_pos c2]
        rw [q1, q2, q3, if_neg (by decide)]
        rw [show (t == (x.day + 1) * 86400 + o) = true by simpa using c2] at st
        exact loopN_end st (by show Ex.ret ≠ Ex.nrm; decide)
      rw [show (t == (x.day + 1) * 86400 + o) = false by simpa using c2] at st
      by_cases c3 : t > (x.day + 1) * 86400 + o
      · have q1 : lkN (x :: xs) o t = lkN xs (o + 1) t + 1 := by rw [lkN, if_pos c1, if_neg c2, if_pos c3]
        have q2 : lookE o (x :: xs) t = lookE (o + 1) xs t := by rw [lookE, if_pos c1, if_neg c2, if_pos c3]
        have q3 : lookF o (x :: xs) t = lookF (o + 1) xs t := by rw [lookF, if_pos c1, if_neg c2, if_pos c3]
        rw [q1, q2, q3]
        rw [decide_eq_true c3] at st
        have ih' := ih (k + 1) _ (o + 1) hd (by omega) hp' (by omega) (by omega)
        refine loopN_step st rfl (vals' := [.int .i64 t, .ptr 0 0 0 0, .int .i64 (o + 1), .int .i64 ((k + 1 : Nat) : Int)]) (bs' := [.cells [.int .i64 f, .sl 1 0 0 2 n none], .rows lpK rs]) (by kernel_rfl) (by kernel_rfl) (by kernel_rfl) ih' ?_
        cases lookE (o + 1) xs t <;> (show (seqAfter _ _ _).den = some _; kernel_rfl)
      · have q1 : lkN (x :: xs) o t = 0 := by rw [lkN, if_pos c1, if_neg c2, if_neg c3]
        have q2 : lookE o (x :: xs) t = false := by rw [lookE, if_pos c1, if_neg c2, if_neg c3]
        have q3 : lookF o (x :: xs) t = (o, none) := by rw [lookF, if_pos c1, if_neg c2, if_neg c3]
        rw [q1, q2, q3, if_neg (by decide)]
        rw [decide_eq_false c3] at st
        exact loopN_end st (by show Ex.ret ≠ Ex.nrm; decide)
    · rw [show (x.sign == 1) = false by simp [c1]] at st
      by_cases c3 : t ≥ (x.day + 1) * 86400 - 1 + o
      · have q1 : lkN (x :: xs) o t = lkN xs (o - 1) t + 1 := by rw [lkN, if_neg c1, if_pos c3]
        have q2 : lookE o (x :: xs) t = lookE (o - 1) xs t := by rw [lookE, if_neg c1, if_pos c3]
        have q3 : lookF o (x :: xs) t = lookF (o - 1) xs t := by rw [lookF, if_neg c1, if_pos c3]
        rw [q1, q2, q3]
        rw [decide_eq_true c3] at st
        have ih' := ih (k + 1) _ (o - 1) hd (by omega) hp' (by omega) (by omega)
        refine loopN_step st rfl (vals' := [.int .i64 t, .ptr 0 0 0 0, .int .i64 (o - 1), .int .i64 ((k + 1 : Nat) : Int)]) (bs' := [.cells [.int .i64 f, .sl 1 0 0 2 n none], .rows lpK rs]) (by kernel_rfl) (by kernel_rfl) (by kernel_rfl) ih' ?_
        cases lookE (o - 1) xs t <;> (show (seqAfter _ _ _).den = some _; kernel_rfl)
      · have q1 : lkN (x :: xs) o t = 0 := by rw [lkN, if_neg c1, if_neg c3]
        have q2 : lookE o (x :: xs) t = false := by rw [lookE, if_neg c1, if_neg c3]
        have q3 : lookF o (x :: xs) t = (o, none) := by rw [lookF, if_neg c1, if_neg c3]
        rw [q1, q2, q3, if_neg (by decide)]
        rw [decide_eq_false c3] at st
        exact loopN_end st (by show Ex.ret ≠ Ex.nrm; decide)
def lkF (vals : List V) (bs : List Blk) : Tree LRes := match vals, bs with
  | [.int .i64 t, .ptr 0 0 0 0, .int .i64 o, .int .i64 k], [.cells [.int .i64 f, .sl 1 0 0 2 n none], .rows [.int .i64, .int .i64] rs] =>
    .need (decide (n = rs.length) && decide (o = f) && decide (k = 0) && goodT f (lps rs)) (.ite (lookE f (lps rs) t) (.leaf ⟨.exit 0, [.any, .any, .int .i64 (lookF f (lps rs) t).1], [none, none], []⟩) (.leaf ⟨.ret, [.int .i64 (lookF f (lps rs) t).1, .int .i64 (dZ (lookF f (lps rs) t).2), .int .i64 (lookF f (lps rs) t).1], [none, none], []⟩))
  | _, _ => .fail
def lkL : LSpec := ⟨62, [1, 2, 6, 7], [4, 5, 6], lkF⟩
theorem lk_loop : LoopOK P (loopAt Tryd.f15 0) lkL := by
  refine loop_ok (GammaOK.nil P) Go.Proofs.YtbfiaogmfjadeaaDoor.hm (Λ := loopsOf []) (LoopsOK.nil (by kernel_rfl)) _ ?_
  intro vals bs r h
  simp only [lkL, lkF] at h
  split at h
  · rename_i t o k f n rs
    rw [den_need] at h
    simp only [Bool.and_eq_true, decide_eq_true_eq] at h
    obtain ⟨⟨⟨⟨h1, rfl⟩, rfl⟩, hg⟩, h⟩ := h
    obtain ⟨g1, g2, g3, g4⟩ := goodT_iff.1 hg
    rw [lps_len] at g3
    have := lk_all (f := o) (t := t) h1 (by omega) (lps rs) 0 none o rfl (by rw [lps_len]; omega) g4 (by rw [lps_len]; omega) (by rw [lps_len]; omega)
    refine ⟨lkN (lps rs) o t + 1, ?_⟩
    refine this.trans ?_
    rw [denI, denLf, denLf] at h
    exact (apply_ite some _ _ _).trans h
  · simp [den_fail] at h
theorem lookE_none (t : Int) : ∀ (ls : List Lp) (f : Int), lookE f ls t = true → (lookF f ls t).2 = none
  | [], _, _ => rfl
  | x :: xs, f, h => by
    simp only [lookE] at h
    simp only [lookF]
    split at h
    · rename_i c1
      rw [if_pos c1]
      split at h
      · cases h
      · rename_i c2
        rw [if_neg c2]
        split at h
        · rename_i c3; rw [if_pos c3]; exact lookE_none t xs _ h
        · cases h
    · rename_i c1
      rw [if_neg c1]
      split at h
      · rename_i c3; rw [if_pos c3]; exact lookE_none t xs _ h
      · cases h
def lkS : Rx.Spec := fun a b => match a, b with
  | [.agg [.int .i64 f, .sl 0 0 0 2 n none], .int .i64 t], [.rows [.int .i64, .int .i64] rs] => .need (decide (n = rs.length) && goodT f (lps rs)) (.leaf ⟨.tup [.int .i64 (lookF f (lps rs) t).1, .int .i64 (dZ (lookF f (lps rs) t).2)], [none], []⟩)
  | _, _ => .fail
theorem lk_ok : SpecOK P 15 lkS := by
  refine specOK_fast (GammaOK.nil P) hm (Λ := loopsOf [(3, lkL)]) Tryd.func15 (by kernel_rfl) (LoopsOK.one (by kernel_rfl) lk_loop) ?_
  intro args bs r h
  unfold lkS at h
  split at h
  · rename_i f n t rs
    rw [den_need, denLf] at h
    simp only [Bool.and_eq_true, decide_eq_true_eq] at h
    obtain ⟨⟨h1, h3⟩, h⟩ := h
    cases h
    rw [show (fFn P (specsOf []) (loopsOf [(3, lkL)]) Tryd.f15 [.agg [.int .i64 f, .sl 0 0 0 2 n none], .int .i64 t] [.rows lpK rs]).denN = Tree.denN (Tree.ite (decide (n = rs.length) && decide (f = f) && true && goodT f (lps rs)) (Tree.ite (lookE f (lps rs) t) (Tree.leaf { v := V.tup [V.int IntKind.i64 (lookF f (lps rs) t).fst, V.int IntKind.i64 (-1)], upd := [none], new := [] }) (Tree.leaf { v := V.tup [V.int IntKind.i64 (lookF f (lps rs) t).fst, V.int IntKind.i64 (dZ (lookF f (lps rs) t).snd)], upd := [none], new := [] })) Tree.fail) from by kernel_rfl]
    simp only [denN_ite, denN_leaf, denN_fail]
    simp only [decide_eq_true h1, h3, decide_true]
    cases he : lookE f (lps rs) t with
    | true => rw [lookE_none t (lps rs) f he]; rfl
    | false => rfl
  · simp [den_fail] at h
abbrev rlbG : List (Nat × Rx.Spec) := [(15, lkS), (35, sixS), (36, ofS)]
theorem rlbG_ok : GammaOK P rlbG := .cons lk_ok (.cons refSix_ok (.cons refOf_ok (.nil P)))
def rlbS : Rx.Spec := fun a b => match a, b with
  | [.agg [.int .i64 f, .sl 0 0 0 2 n none], .int .i64 t], [.rows [.int .i64, .int .i64] rs] => .need (decide (n = rs.length) && goodT f (lps rs) && decide (t ≤ 9000000000000000000)) (.ite (labB f (lps rs) t) (.leaf ⟨.tup [(labL f (lps rs) t).v, .bool true], [none], []⟩) (.leaf ⟨.tup [Lab.zero.v, .bool false], [none], []⟩))
  | _, _ => .fail
theorem rlb_ok : SpecOK P 17 rlbS := by
  refine specOK_fast rlbG_ok hm (Λ := loopsOf []) Tryd.func17 (by kernel_rfl) (LoopsOK.nil (by kernel_rfl)) ?_
  intro args bs r h
  unfold rlbS at h
  split at h
  · rename_i f n t rs
    rw [den_need, denI, denLf, denLf] at h
    simp only [Bool.and_eq_true, decide_eq_true_eq] at h
    obtain ⟨⟨⟨h1, h3⟩, ht⟩, h⟩ := h
    obtain ⟨g1, g2, g3, g4⟩ := goodT_iff.1 h3
    rw [show (fFn P (specsOf rlbG) (loopsOf []) Tryd.f17 [.agg [.int .i64 f, .sl 0 0 0 2 n none], .int .i64 t] [.rows lpK rs]).denN = Tree.denN (Tree.ite (decide (t < 0)) (Tree.leaf { v := V.tup [V.agg [V.int IntKind.i64 0, V.int IntKind.i64 0, V.int IntKind.i64 0, V.int IntKind.i64 0, V.int IntKind.i64 0, V.int IntKind.i64 0], V.fls], upd := [none], new := [] }) (Tree.ite (decide (n = rs.length) && goodT f (lps rs)) (Tree.ite (decide (dZ (lookF f (lps rs) t).snd ≥ 0)) (Tree.ite (decide (dZ (lookF f (lps rs) t).snd ≤ 9223372036854775807)) (Tree.ite (dateB (dZ (lookF f (lps rs) t).snd)) (Tree.leaf { v := V.tup [V.agg [V.int IntKind.i64 (dYear (dZ (lookF f (lps rs) t).snd)), V.int IntKind.i64 (dMonth (dZ (lookF f (lps rs) t).snd)), V.int IntKind.i64 (dDay (dZ (lookF f (lps rs) t).snd)), V.int IntKind.i64 23, V.int IntKind.i64 59, V.int IntKind.i64 60], V.bool true], upd := [none], new := [] }) (Tree.leaf { v := V.tup [V.agg [V.int IntKind.i64 0, V.int IntKind.i64 0, V.int IntKind.i64 0, V.int IntKind.i64 0, V.int IntKind.i64 0, V.int IntKind.i64 0], V.bool false], upd := [none], new := [] })) Tree.fail) (Tree.ite (decide (IntKind.i64.wrap (t - (lookF f (lps rs) t).fst) ≤ 9223372036854775807)) (Tree.ite (ofB (IntKind.i64.wrap (t - (lookF f (lps rs) t).fst))) (Tree.leaf { v := V.tup [V.agg [V.int IntKind.i64 (dYear (IntKind.i64.wrap (t - (lookF f (lps rs) t).fst) / 86400)), V.int IntKind.i64 (dMonth (IntKind.i64.wrap (t - (lookF f (lps rs) t).fst) / 86400)), V.int IntKind.i64 (dDay (IntKind.i64.wrap (t - (lookF f (lps rs) t).fst) / 86400)), V.int IntKind.i64 (IntKind.i64.wrap (t - (lookF f (lps rs) t).fst) % 86400 / 3600), V.int IntKind.i64 (IntKind.i64.wrap (t - (lookF f (lps rs) t).fst) % 3600 / 60), V.int IntKind.i64 (IntKind.i64.wrap (t - (lookF f (lps rs) t).fst) % 60)], V.bool true], upd := [none], new := [] }) (Tree.leaf { v := V.tup [V.agg [V.int IntKind.i64 0, V.int IntKind.i64 0, V.int IntKind.i64 0, V.int IntKind.i64 0, V.int IntKind.i64 0, V.int IntKind.i64 0], V.bool false], upd := [none], new := [] })) Tree.fail)) Tree.fail)) from by kernel_rfl]
    simp only [denN_ite, denN_leaf, denN_fail]
    simp only [decide_eq_true h1, h3]
    by_cases h0 : t < 0
    · have e : labB f (lps rs) t = false := by unfold labB; rw [decide_eq_false (by omega)]; rfl
      rw [e, if_neg (by decide)] at h; cases h
      rw [decide_eq_true h0]; rfl
    have hbd := look_bd t (lps rs) f
    rw [decide_eq_false h0]
    cases hk : (lookF f (lps rs) t).2 with
    | some d =>
      have hd := look_day t (lps rs) none f d g4 hk
      have e : labB f (lps rs) t = true := by unfold labB; rw [hk, decide_eq_true (by omega)]; rfl
      have e2 : labL f (lps rs) t = sixL d := by unfold labL; rw [hk]
      rw [e, e2, if_pos rfl] at h; cases h
      have e3 : dZ (some d) = d := rfl
      have ed : dateB d = true := by unfold dateB; rw [decide_eq_true (by omega), decide_eq_true (by omega)]; rfl
      rw [e3, ed, decide_eq_true (show d ≥ 0 by omega), decide_eq_true (show d ≤ 9223372036854775807 by omega)]; rfl
    | none =>
      have e : labB f (lps rs) t = ofB (t - (lookF f (lps rs) t).1) := by unfold labB; rw [hk, decide_eq_true (by omega)]; rfl
      have e2 : labL f (lps rs) t = ofL (t - (lookF f (lps rs) t).1) := by unfold labL; rw [hk]
      rw [e, e2] at h
      rw [wrap64_id (n := t - (lookF f (lps rs) t).1) (by omega) (by omega)]
      rw [decide_eq_true (show t - (lookF f (lps rs) t).1 ≤ 9223372036854775807 by omega)]
      cases ho : ofB (t - (lookF f (lps rs) t).1) <;> rw [ho] at h <;> cases h <;> rfl
  · simp [den_fail] at h
end Go.Proofs.YtbfiaogmfjadeaaDoor

set_option maxRecDepth 100000
set_option linter.unusedSimpArgs false
set_option linter.unusedVariables false
namespace Go.Proofs.YtbfiaogmfjadeaaDoor
open Go.Rx
def fl61 (d : Int) (l a : Bool) : List Lp → Bool
  | [] => a
  | x :: xs => fl61 d l (a || (l && ((x.day == d) && decide (x.sign > 0)))) xs
def fl59 (d : Int) (l a : Bool) : List Lp → Bool
  | [] => a
  | x :: xs => fl59 d l (a || (l && ((x.day == d) && decide (x.sign < 0)))) xs
theorem nt_round (n : Nat) (N d k o : Int) (l a b : Bool) (rs : List (List V)) : (evRound P (specsOf []) (loopsOf []) 92 [4, 7, 8, 10, 50, 51, 52] [] (loopAt Tryd.f19 0) [.ptr 0 0 0 0, .ptr 1 0 0 0, .int .i64 d, .bool l, .sl 2 0 0 2 n none, .int .i64 N, .int .i64 k] [.cells [.int .i64 0, .bool false, .bool false, .bool false], .cells [.int .i64 o, .bool a, .bool b, .bool true], .rows lpK rs]).den = Tree.den (Tree.ite (decide (k < N)) (Tree.ite (decide (0 ≤ k) && decide (k < (↑n : Int))) (Tree.ite (decide (0 + k.toNat < rs.length)) (Tree.ite a (Tree.ite b (Tree.leaf { e := Ex.nrm, vs := [V.ptr 0 0 0 0, V.ptr 1 0 0 0, V.int IntKind.i64 d, V.bool l, V.sl 2 0 0 2 n none, V.int IntKind.i64 N, V.int IntKind.i64 (IntKind.i64.wrap (k + 1))], upd := [none, some (some (Body.cells [V.int IntKind.i64 o, V.tru, V.tru, V.bool true])), none], new := [] }) (Tree.ite l (Tree.ite ((V.toInt ((rs.getD (0 + k.toNat) []).getD 0 V.any)) == d) (Tree.leaf { e := Ex.nrm, vs := [V.ptr 0 0 0 0, V.ptr 1 0 0 0, V.int IntKind.i64 d, V.bool l, V.sl 2 0 0 2 n none, V.int IntKind.i64 N, V.int IntKind.i64 (IntKind.i64.wrap (k + 1))], upd := [none, some (some (Body.cells [V.int IntKind.i64 o, V.tru, V.bool (decide ((V.toInt ((rs.getD (0 + k.toNat) []).getD 1 V.any)) < 0)), V.bool true])), none], new := [] }) (Tree.leaf { e := Ex.nrm, vs := [V.ptr 0 0 0 0, V.ptr 1 0 0 0, V.int IntKind.i64 d, V.bool l, V.sl 2 0 0 2 n none, V.int IntKind.i64 N, V.int IntKind.i64 (IntKind.i64.wrap (k + 1))], upd := [none, some (some (Body.cells [V.int IntKind.i64 o, V.tru, V.fls, V.bool true])), none], new := [] })) (Tree.leaf { e := Ex.nrm, vs := [V.ptr 0 0 0 0, V.ptr 1 0 0 0, V.int IntKind.i64 d, V.bool l, V.sl 2 0 0 2 n none, V.int IntKind.i64 N, V.int IntKind.i64 (IntKind.i64.wrap (k + 1))], upd := [none, some (some (Body.cells [V.int IntKind.i64 o, V.tru, V.fls, V.bool true])), none], new := [] }))) (Tree.ite l (Tree.ite ((V.toInt ((rs.getD (0 + k.toNat) []).getD 0 V.any)) == d) (Tree.ite b (Tree.leaf { e := Ex.nrm, vs := [V.ptr 0 0 0 0, V.ptr 1 0 0 0, V.int IntKind.i64 d, V.bool l, V.sl 2 0 0 2 n none, V.int IntKind.i64 N, V.int IntKind.i64 (IntKind.i64.wrap (k + 1))], upd := [none, some (some (Body.cells [V.int IntKind.i64 o, V.bool (decide ((V.toInt ((rs.getD (0 + k.toNat) []).getD 1 V.any)) > 0)), V.tru, V.bool true])), none], new := [] }) (Tree.ite l (Tree.ite ((V.toInt ((rs.getD (0 + k.toNat) []).getD 0 V.any)) == d) (Tree.leaf { e := Ex.nrm, vs := [V.ptr 0 0 0 0, V.ptr 1 0 0 0, V.int IntKind.i64 d, V.bool l, V.sl 2 0 0 2 n none, V.int IntKind.i64 N, V.int IntKind.i64 (IntKind.i64.wrap (k + 1))], upd := [none, some (some (Body.cells [V.int IntKind.i64 o, V.bool (decide ((V.toInt ((rs.getD (0 + k.toNat) []).getD 1 V.any)) > 0)), V.bool (decide ((V.toInt ((rs.getD (0 + k.toNat) []).getD 1 V.any)) < 0)), V.bool true])), none], new := [] }) (Tree.leaf { e := Ex.nrm, vs := [V.ptr 0 0 0 0, V.ptr 1 0 0 0, V.int IntKind.i64 d, V.bool l, V.sl 2 0 0 2 n none, V.int IntKind.i64 N, V.int IntKind.i64 (IntKind.i64.wrap (k + 1))], upd := [none, some (some (Body.cells [V.int IntKind.i64 o, V.bool (decide ((V.toInt ((rs.getD (0 + k.toNat) []).getD 1 V.any)) > 0)), V.fls, V.bool true])), none], new := [] })) (Tree.leaf { e := Ex.nrm, vs := [V.ptr 0 0 0 0, V.ptr 1 0 0 0, V.int IntKind.i64 d, V.bool l, V.sl 2 0 0 2 n none, V.int IntKind.i64 N, V.int IntKind.i64 (IntKind.i64.wrap (k + 1))], upd := [none, some (some (Body.cells [V.int IntKind.i64 o, V.bool (decide ((V.toInt ((rs.getD (0 + k.toNat) []).getD 1 V.any)) > 0)), V.fls, V.bool true])), none], new := [] }))) (Tree.ite b (Tree.leaf { e := Ex.nrm, vs := [V.ptr 0 0 0 0, V.ptr 1 0 0 0, V.int IntKind.i64 d, V.bool l, V.sl 2 0 0 2 n none, V.int IntKind.i64 N, V.int IntKind.i64 (IntKind.i64.wrap (k + 1))], upd := [none, some (some (Body.cells [V.int IntKind.i64 o, V.fls, V.tru, V.bool true])), none], new := [] }) (Tree.ite l (Tree.ite ((V.toInt ((rs.getD (0 + k.toNat) []).getD 0 V.any)) == d) (Tree.leaf { e := Ex.nrm, vs := [V.ptr 0 0 0 0, V.ptr 1 0 0 0, V.int IntKind.i64 d, V.bool l, V.sl 2 0 0 2 n none, V.int IntKind.i64 N, V.int IntKind.i64 (IntKind.i64.wrap (k + 1))], upd := [none, some (some (Body.cells [V.int IntKind.i64 o, V.fls, V.bool (decide ((V.toInt ((rs.getD (0 + k.toNat) []).getD 1 V.any)) < 0)), V.bool true])), none], new := [] }) (Tree.leaf { e := Ex.nrm, vs := [V.ptr 0 0 0 0, V.ptr 1 0 0 0, V.int IntKind.i64 d, V.bool l, V.sl 2 0 0 2 n none, V.int IntKind.i64 N, V.int IntKind.i64 (IntKind.i64.wrap (k + 1))], upd := [none, some (some (Body.cells [V.int IntKind.i64 o, V.fls, V.fls, V.bool true])), none], new := [] })) (Tree.leaf { e := Ex.nrm, vs := [V.ptr 0 0 0 0, V.ptr 1 0 0 0, V.int IntKind.i64 d, V.bool l, V.sl 2 0 0 2 n none, V.int IntKind.i64 N, V.int IntKind.i64 (IntKind.i64.wrap (k + 1))], upd := [none, some (some (Body.cells [V.int IntKind.i64 o, V.fls, V.fls, V.bool true])), none], new := [] })))) (Tree.ite b (Tree.leaf { e := Ex.nrm, vs := [V.ptr 0 0 0 0, V.ptr 1 0 0 0, V.int IntKind.i64 d, V.bool l, V.sl 2 0 0 2 n none, V.int IntKind.i64 N, V.int IntKind.i64 (IntKind.i64.wrap (k + 1))], upd := [none, some (some (Body.cells [V.int IntKind.i64 o, V.fls, V.tru, V.bool true])), none], new := [] }) (Tree.ite l (Tree.ite ((V.toInt ((rs.getD (0 + k.toNat) []).getD 0 V.any)) == d) (Tree.leaf { e := Ex.nrm, vs := [V.ptr 0 0 0 0, V.ptr 1 0 0 0, V.int IntKind.i64 d, V.bool l, V.sl 2 0 0 2 n none, V.int IntKind.i64 N, V.int IntKind.i64 (IntKind.i64.wrap (k + 1))], upd := [none, some (some (Body.cells [V.int IntKind.i64 o, V.fls, V.bool (decide ((V.toInt ((rs.getD (0 + k.toNat) []).getD 1 V.any)) < 0)), V.bool true])), none], new := [] }) (Tree.leaf { e := Ex.nrm, vs := [V.ptr 0 0 0 0, V.ptr 1 0 0 0, V.int IntKind.i64 d, V.bool l, V.sl 2 0 0 2 n none, V.int IntKind.i64 N, V.int IntKind.i64 (IntKind.i64.wrap (k + 1))], upd := [none, some (some (Body.cells [V.int IntKind.i64 o, V.fls, V.fls, V.bool true])), none], new := [] })) (Tree.leaf { e := Ex.nrm, vs := [V.ptr 0 0 0 0, V.ptr 1 0 0 0, V.int IntKind.i64 d, V.bool l, V.sl 2 0 0 2 n none, V.int IntKind.i64 N, V.int IntKind.i64 (IntKind.i64.wrap (k + 1))], upd := [none, some (some (Body.cells [V.int IntKind.i64 o, V.fls, V.fls, V.bool true])), none], new := [] }))))) Tree.fail) Tree.fail) (Tree.leaf { e := Ex.exit 0, vs := [], upd := [none, none, none], new := [] })) := by
  kernel_rfl
theorem ntN_round (N d k o : Int) (l a b : Bool) : (evRound P (specsOf []) (loopsOf []) 92 [4, 7, 8, 10, 50, 51, 52] [] (loopAt Tryd.f19 0) [.ptr 0 0 0 0, .ptr 1 0 0 0, .int .i64 d, .bool l, .nils, .int .i64 N, .int .i64 k] [.cells [.int .i64 0, .bool false, .bool false, .bool false], .cells [.int .i64 o, .bool a, .bool b, .bool true]]).den = Tree.den (Tree.ite (decide (k < N)) Tree.fail (Tree.leaf { e := Ex.exit 0, vs := [], upd := [none, none], new := [] })) := by
  kernel_rfl
def ntR (o d : Int) (l a b : Bool) : List Lp → LRes
  | [] => ⟨.exit 0, [], [none, none, none], []⟩
  | x :: xs => ⟨.exit 0, [], [none, some (some (.cells [.int .i64 o, .bool (fl61 d l a (x :: xs)), .bool (fl59 d l b (x :: xs)), .bool true])), none], []⟩
theorem nt_all {n : Nat} {o d : Int} {l : Bool} {rs : List (List V)} (hn : n = rs.length) (hn2 : n ≤ 1000000) : ∀ (rest : List Lp) (k : Nat) (a b : Bool), (lps rs).drop k = rest → k + rest.length = n →
    loopM P (specsOf []) (loopsOf []) 92 [4, 7, 8, 10, 50, 51, 52] [] (loopAt Tryd.f19 0) (rest.length + 1) [.ptr 0 0 0 0, .ptr 1 0 0 0, .int .i64 d, .bool l, .sl 2 0 0 2 n none, .int .i64 n, .int .i64 k] [.cells [.int .i64 0, .bool false, .bool false, .bool false], .cells [.int .i64 o, .bool a, .bool b, .bool true], .rows lpK rs] = some (ntR o d l a b rest) := by
  intro rest
  induction rest with
  | nil =>
    intro k a b hr hk
    have hx := nt_round n n d k o l a b rs
    rw [decide_eq_false (show ¬ (k : Int) < (n : Int) by simp at hk; omega)] at hx
    exact loopM_end hx (by show Ex.exit 0 ≠ Ex.nrm; decide) rfl
  | cons x xs ih =>
    intro k a b hr hk
    simp only [List.length_cons] at hk
    obtain ⟨hx, hd⟩ := drop_get hr
    rw [lps_get] at hx
    have e1 : V.toInt ((rs.getD k []).getD 0 V.any) = x.day := by rw [← hx]; rfl
    have e2 : V.toInt ((rs.getD k []).getD 1 V.any) = x.sign := by rw [← hx]; rfl
    have st := nt_round n n d k o l a b rs
    have w6 : IntKind.i64.wrap ((k : Int) + 1) = ((k + 1 : Nat) : Int) := by rw [wrap64_id (by omega) (by omega)]; omega
    simp only [Nat.zero_add, Int.toNat_natCast, e1, e2, w6] at st
    rw [decide_eq_true (show (k : Int) < (n : Int) by omega), decide_eq_true (show (0 : Int) ≤ k by omega), decide_eq_true (show k < rs.length by omega)] at st
    have ih' := ih (k + 1) (a || (l && ((x.day == d) && decide (x.sign > 0)))) (b || (l && ((x.day == d) && decide (x.sign < 0)))) hd (by omega)
    have er : ntR o d l a b (x :: xs) = ⟨.exit 0, [], [none, some (some (.cells [.int .i64 o, .bool (fl61 d l (a || (l && ((x.day == d) && decide (x.sign > 0)))) xs), .bool (fl59 d l (b || (l && ((x.day == d) && decide (x.sign < 0)))) xs), .bool true])), none], []⟩ := rfl
    rw [er]
    clear er e1 e2 hx ih
    generalize (x.day == d) = E at st ih' ⊢
    generalize decide (x.sign > 0) = u at st ih' ⊢
    generalize decide (x.sign < 0) = v at st ih' ⊢
    have fin : ∀ (a' b' : Bool) (r1 : LRes), a' = (a || (l && (E && u))) → b' = (b || (l && (E && v))) →
        (evRound P (specsOf []) (loopsOf []) 92 [4, 7, 8, 10, 50, 51, 52] [] (loopAt Tryd.f19 0) [.ptr 0 0 0 0, .ptr 1 0 0 0, .int .i64 d, .bool l, .sl 2 0 0 2 n none, .int .i64 n, .int .i64 k] [.cells [.int .i64 0, .bool false, .bool false, .bool false], .cells [.int .i64 o, .bool a, .bool b, .bool true], .rows lpK rs]).den = some r1 → r1.e = .nrm →
        seqOk [.cells [.int .i64 0, .bool false, .bool false, .bool false], .cells [.int .i64 o, .bool a, .bool b, .bool true], .rows lpK rs] r1 = true →
        Rx.nrm.nrms (seqVals [.cells [.int .i64 0, .bool false, .bool false, .bool false], .cells [.int .i64 o, .bool a, .bool b, .bool true], .rows lpK rs] r1) = [.ptr 0 0 0 0, .ptr 1 0 0 0, .int .i64 d, .bool l, .sl 2 0 0 2 n none, .int .i64 n, .int .i64 ((k + 1 : Nat) : Int)] →
        (seqBlks [.cells [.int .i64 0, .bool false, .bool false, .bool false], .cells [.int .i64 o, .bool a, .bool b, .bool true], .rows lpK rs] r1).map nrmB = [.cells [.int .i64 0, .bool false, .bool false, .bool false], .cells [.int .i64 o, .bool a', .bool b', .bool true], .rows lpK rs] →
        ((seqAfter [.cells [.int .i64 0, .bool false, .bool false, .bool false], .cells [.int .i64 o, .bool a, .bool b, .bool true], .rows lpK rs] r1 (ntR o d l a' b' xs)).den).map nrmL = some ⟨.exit 0, [], [none, some (some (.cells [.int .i64 o, .bool (fl61 d l a' xs), .bool (fl59 d l b' xs), .bool true])), none], []⟩ →
        loopM P (specsOf []) (loopsOf []) 92 [4, 7, 8, 10, 50, 51, 52] [] (loopAt Tryd.f19 0) ((x :: xs).length + 1) [.ptr 0 0 0 0, .ptr 1 0 0 0, .int .i64 d, .bool l, .sl 2 0 0 2 n none, .int .i64 n, .int .i64 k] [.cells [.int .i64 0, .bool false, .bool false, .bool false], .cells [.int .i64 o, .bool a, .bool b, .bool true], .rows lpK rs] = some ⟨.exit 0, [], [none, some (some (.cells [.int .i64 o, .bool (fl61 d l (a || (l && (E && u))) xs), .bool (fl59 d l (b || (l && (E && v))) xs), .bool true])), none], []⟩ := by
      intro a' b' r1 ha hb h1 h2 h3 h4 h5 h6
      subst ha hb
      exact loopM_step h1 h2 h3 h4 h5 ih' h6
    clear ih'
    cases a <;> cases b <;> cases l <;> cases E
    all_goals (refine fin _ _ _ rfl rfl st rfl (by kernel_rfl) (by kernel_rfl) (by kernel_rfl) ?_; cases xs <;> (show ((seqAfter _ _ _).den).map nrmL = some _; kernel_rfl))
def ntF (vals : List V) (bs : List Blk) : Tree LRes := match vals, bs with
  | [.ptr 0 0 0 0, .ptr 1 0 0 0, .int .i64 d, .bool l, .sl 2 0 0 2 n none, .int .i64 N, .int .i64 k], [.cells [.int .i64 0, .bool false, .bool false, .bool false], .cells [.int .i64 o, .bool false, .bool false, .bool true], .rows [.int .i64, .int .i64] rs] =>
    .need (decide (n = rs.length) && decide (1 ≤ n) && decide (N = n) && decide (k = 0) && decide (n ≤ 1000000)) (.leaf ⟨.exit 0, [], [none, some (some (.cells [.int .i64 o, .bool (fl61 d l false (lps rs)), .bool (fl59 d l false (lps rs)), .bool true])), none], []⟩)
  | [.ptr 0 0 0 0, .ptr 1 0 0 0, .int .i64 d, .bool l, .nils, .int .i64 N, .int .i64 k], [.cells [.int .i64 0, .bool false, .bool false, .bool false], .cells [.int .i64 o, .bool false, .bool false, .bool true]] =>
    .need (decide (N = 0) && decide (k = 0)) (.leaf ⟨.exit 0, [], [none, none], []⟩)
  | _, _ => .fail
def ntL : LSpec := ⟨92, [4, 7, 8, 10, 50, 51, 52], [], ntF⟩
theorem nt_loop : LoopOK P (loopAt Tryd.f19 0) ntL.nz := by
  refine loop_okM (GammaOK.nil P) Go.Proofs.YtbfiaogmfjadeaaDoor.hm (Λ := loopsOf []) (LoopsOK.nil (by kernel_rfl)) _ ?_
  intro vals bs r h
  simp only [ntL, ntF] at h
  split at h
  · rename_i d l n N k o rs
    rw [den_need, denLf] at h
    simp only [Bool.and_eq_true, decide_eq_true_eq] at h
    obtain ⟨⟨⟨⟨⟨h1, h2⟩, rfl⟩, rfl⟩, h3⟩, h⟩ := h
    have := nt_all (o := o) (d := d) (l := l) h1 h3 (lps rs) 0 false false rfl (by rw [lps_len]; omega)
    refine ⟨(lps rs).length + 1, this.trans ?_⟩
    cases h
    cases hls : lps rs with
    | nil => have := lps_len rs; rw [hls] at this; simp at this; omega
    | cons x xs => rfl
  · rename_i d l N k o
    rw [den_need, denLf] at h
    simp only [Bool.and_eq_true, decide_eq_true_eq] at h
    obtain ⟨⟨rfl, rfl⟩, h⟩ := h
    cases h
    exact ⟨1, loopM_end (ntN_round 0 d 0 o l false false) (by show Ex.exit 0 ≠ Ex.nrm; decide) rfl⟩
  · simp [den_fail] at h
end Go.Proofs.YtbfiaogmfjadeaaDoor

set_option maxRecDepth 100000
set_option linter.unusedSimpArgs false
set_option linter.unusedVariables false
namespace Go.Proofs.YtbfiaogmfjadeaaDoor
open Go.Rx
theorem look_six (t : Int) : ∀ (ls : List Lp) (f d : Int), (lookF f ls t).2 = some d → t = (d + 1) * 86400 + (lookF f ls t).1
  | [], _, _, h => by simp [lookF] at h
  | x :: xs, f, d, h => by
    simp only [lookF] at h ⊢
    split at h
    · rename_i c1
      rw [if_pos c1]
      split at h
      · rename_i c2
        rw [if_pos c2]
        simp only [Option.some.injEq] at h; subst h; exact c2
      · rename_i c2
        rw [if_neg c2]
        split at h
        · rename_i c3; rw [if_pos c3]; exact look_six t xs _ d h
        · simp at h
    · rename_i c1
      rw [if_neg c1]
      split at h
      · rename_i c3; rw [if_pos c3]; exact look_six t xs _ d h
      · simp at h
theorem six_right {d : Int} (h : dateB d = true) : rightZ (sixL d) = true ∧ secZ (sixL d) = (d + 1) * 86400 := by
  obtain ⟨h1, h2⟩ := date_day h
  refine ⟨?_, ?_⟩
  · have e : rightZ (sixL d) = dayB (dYear d) (dMonth d) (dDay d) := by simp [rightZ, sixL]
    rw [e]; exact h1
  · show dayZ (dYear d) (dMonth d) (dDay d) * 86400 + 23 * 3600 + 59 * 60 + 60 = _
    rw [h2]; omega
/-- A label of a table: a right one, of so many seconds. -/
theorem lab_right {f t : Int} {ls : List Lp} (hg : goodT f ls = true) (h : labB f ls t = true) :
    rightZ (labL f ls t) = true ∧ secZ (labL f ls t) = t - (lookF f ls t).1 ∧ ((labL f ls t).s = 60 ↔ (lookF f ls t).2 ≠ none) ∧ 0 ≤ t := by
  obtain ⟨g1, g2, g3, g4⟩ := goodT_iff.1 hg
  unfold labB at h
  unfold labL
  rw [Bool.and_eq_true, decide_eq_true_eq] at h
  obtain ⟨h0, h⟩ := h
  cases hk : (lookF f ls t).2 with
  | some d =>
    have hd := look_day t ls none f d g4 hk
    have h6 := look_six t ls f d hk
    obtain ⟨s1, s2⟩ := six_right (d := d) (by unfold dateB; rw [decide_eq_true (by omega), decide_eq_true (by omega)]; rfl)
    refine ⟨s1, ?_, ?_, h0⟩
    · show secZ (sixL d) = _; rw [s2]; omega
    · simp [sixL]
  | none =>
    rw [hk] at h
    obtain ⟨s1, s2, s3⟩ := of_right h
    refine ⟨s1, s2, ?_, h0⟩
    constructor
    · intro hs
      have : (t - (lookF f ls t).1) % 60 = 60 := hs
      omega
    · intro hc; exact absurd rfl hc
def noteT (f : Int) (ls : List Lp) (t : Int) : Nte := ⟨(lookF f ls t).1, fl61 (dayZ (labL f ls t).y (labL f ls t).mo (labL f ls t).d) (decide (12 ≤ (labL f ls t).h)) false ls, fl59 (dayZ (labL f ls t).y (labL f ls t).mo (labL f ls t).d) (decide (12 ≤ (labL f ls t).h)) false ls, true⟩
abbrev noG : List (Nat × Rx.Spec) := [kpE, (16, lbS), (18, offS), (37, dayS)]
theorem noG_ok : GammaOK P noG := .cons keep_ok (.cons lb_ok (.cons off_ok (.cons day_ok (.nil P))))
def noS : Rx.Spec := fun a b => match a with
  | [.ptr 0 0 0 0, .int .i64 t] => onT b fun f ls u => .need (decide (t ≤ 9000000000000000000)) (.ite (labB f ls t) (.leaf ⟨(noteT f ls t).v, u, []⟩) (.leaf ⟨Nte.zero.v, u, []⟩))
  | _ => .fail
theorem late_eq {l : Lab} (h : rightZ l = true) : decide (IntKind.i64.wrap (IntKind.i64.wrap (IntKind.i64.wrap (l.h * 3600) + IntKind.i64.wrap (l.mi * 60)) + l.s) ≥ 43200) = decide (12 ≤ l.h) := by
  obtain ⟨_, a1, a2, a3, a4, a5, a6, a7⟩ := right_mem h
  have w1 : IntKind.i64.wrap (l.h * 3600) = l.h * 3600 := wrap64_id (by omega) (by omega)
  have w2 : IntKind.i64.wrap (l.mi * 60) = l.mi * 60 := wrap64_id (by omega) (by omega)
  rw [w1, w2]
  have w3 : IntKind.i64.wrap (l.h * 3600 + l.mi * 60) = l.h * 3600 + l.mi * 60 := wrap64_id (by omega) (by omega)
  rw [w3]
  have w4 : IntKind.i64.wrap (l.h * 3600 + l.mi * 60 + l.s) = l.h * 3600 + l.mi * 60 + l.s := wrap64_id (by omega) (by omega)
  rw [w4, Bool.eq_iff_iff, decide_eq_true_eq, decide_eq_true_eq]
  omega
theorem no_ok : SpecOK P 19 noS := by
  refine specOK_fast noG_ok hm (Λ := loopsOf [(8, ntL.nz)]) Tryd.func19 (by kernel_rfl) (LoopsOK.one (by kernel_rfl) nt_loop) ?_
  intro args bs r h
  unfold noS at h
  split at h
  · rename_i t
    rcases onT_den h with ⟨f, rs, rfl, hg, h1, hk⟩ | ⟨f, rfl, hg, hk⟩
    · rw [den_need, denI, denLf, denLf] at hk
      obtain ⟨ht, hk⟩ := hk
      obtain ⟨g1, g2, g3, g4⟩ := goodT_iff.1 hg
      rw [lps_len] at g3
      rw [show (fFn P (specsOf noG) (loopsOf [(8, ntL.nz)]) Tryd.f19 [.ptr 0 0 0 0, .int .i64 t] (tabA f rs)).denN = Tree.denN (Tree.ite (okTA rs.length (rs.length + 1) rs.length f rs (offsF f (lps rs)) (stF f (lps rs))) (Tree.ite (decide (t ≤ 9000000000000000000)) (Tree.ite (labB f (lps rs) t) (Tree.ite (okTA rs.length (rs.length + 1) rs.length f rs (offsF f (lps rs)) (stF f (lps rs))) (Tree.ite (dayB (labL f (lps rs) t).1 (labL f (lps rs) t).2 (labL f (lps rs) t).3) (Tree.ite (decide (rs.length = rs.length) && decide (1 ≤ rs.length) && decide ((↑rs.length : Int) = (↑rs.length : Int)) && true && decide (rs.length ≤ 1000000)) (Tree.leaf { v := V.agg [V.int IntKind.i64 (lookF f (lps rs) t).fst, V.bool (fl61 (dayZ (labL f (lps rs) t).1 (labL f (lps rs) t).2 (labL f (lps rs) t).3) (decide (IntKind.i64.wrap (IntKind.i64.wrap (IntKind.i64.wrap ((labL f (lps rs) t).4 * 3600) + IntKind.i64.wrap ((labL f (lps rs) t).5 * 60)) + (labL f (lps rs) t).6) ≥ 43200)) false (lps rs)), V.bool (fl59 (dayZ (labL f (lps rs) t).1 (labL f (lps rs) t).2 (labL f (lps rs) t).3) (decide (IntKind.i64.wrap (IntKind.i64.wrap (IntKind.i64.wrap ((labL f (lps rs) t).4 * 3600) + IntKind.i64.wrap ((labL f (lps rs) t).5 * 60)) + (labL f (lps rs) t).6) ≥ 43200)) false (lps rs)), V.bool true], upd := [none, none, none, none], new := [] }) Tree.fail) (Tree.ite (decide (rs.length = rs.length) && decide (1 ≤ rs.length) && decide ((↑rs.length : Int) = (↑rs.length : Int)) && true && decide (rs.length ≤ 1000000)) (Tree.leaf { v := V.agg [V.int IntKind.i64 (lookF f (lps rs) t).fst, V.bool (fl61 0 (decide (IntKind.i64.wrap (IntKind.i64.wrap (IntKind.i64.wrap ((labL f (lps rs) t).4 * 3600) + IntKind.i64.wrap ((labL f (lps rs) t).5 * 60)) + (labL f (lps rs) t).6) ≥ 43200)) false (lps rs)), V.bool (fl59 0 (decide (IntKind.i64.wrap (IntKind.i64.wrap (IntKind.i64.wrap ((labL f (lps rs) t).4 * 3600) + IntKind.i64.wrap ((labL f (lps rs) t).5 * 60)) + (labL f (lps rs) t).6) ≥ 43200)) false (lps rs)), V.bool true], upd := [none, none, none, none], new := [] }) Tree.fail)) Tree.fail) (Tree.leaf { v := V.agg [V.int IntKind.i64 0, V.fls, V.fls, V.fls], upd := [none, none, none, none], new := [] })) Tree.fail) Tree.fail) from by kernel_rfl]
      simp only [denN_ite, denN_leaf, denN_fail, okTA_of hg h1, ht]
      cases hb : labB f (lps rs) t with
      | false => rw [hb, if_neg (by decide)] at hk; cases hk; rfl
      | true =>
        rw [hb, if_pos rfl] at hk; cases hk
        obtain ⟨l1, l2, l3, l4⟩ := lab_right hg hb
        have hd := (right_mem l1).1
        have hlt := late_eq l1
        rw [show dayB (labL f (lps rs) t).1 (labL f (lps rs) t).2 (labL f (lps rs) t).3 = true from hd, hlt]
        simp only [decide_true, decide_eq_true h1, decide_eq_true (show rs.length ≤ 1000000 by omega)]
        rfl
    · rw [den_need, denI, denLf, denLf] at hk
      obtain ⟨ht, hk⟩ := hk
      rw [show (fFn P (specsOf noG) (loopsOf [(8, ntL.nz)]) Tryd.f19 [.ptr 0 0 0 0, .int .i64 t] (tabN f)).denN = Tree.denN (Tree.ite (goodT f []) (Tree.ite (decide (t ≤ 9000000000000000000)) (Tree.ite (labB f [] t) (Tree.ite (goodT f []) (Tree.ite (dayB (dYear ((t - f) / 86400)) (dMonth ((t - f) / 86400)) (dDay ((t - f) / 86400))) (Tree.leaf { v := V.agg [V.int IntKind.i64 f, V.fls, V.fls, V.tru], upd := [none, none], new := [] }) (Tree.leaf { v := V.agg [V.int IntKind.i64 f, V.fls, V.fls, V.tru], upd := [none, none], new := [] })) Tree.fail) (Tree.leaf { v := V.agg [V.int IntKind.i64 0, V.fls, V.fls, V.fls], upd := [none, none], new := [] })) Tree.fail) Tree.fail) from by kernel_rfl]
      simp only [denN_ite, denN_leaf, denN_fail, hg, ht]
      cases hb : labB f [] t with
      | false => rw [hb, if_neg (by decide)] at hk; cases hk; rfl
      | true =>
        rw [hb, if_pos rfl] at hk; cases hk
        generalize dayB (dYear ((t - f) / 86400)) (dMonth ((t - f) / 86400)) (dDay ((t - f) / 86400)) = z
        cases z <;> rfl
  · simp [den_fail] at h
/-! ### The reference -/
theorem to_round (n : Nat) (f d o k : Int) (a b : Bool) (rs : List (List V)) : (evRound P (specsOf []) (loopsOf []) 88 [2, 4, 9, 10, 12] [] (loopAt Tryd.f20 0) [.ptr 0 0 0 0, .ptr 1 0 0 0, .ptr 2 0 0 0, .int .i64 d, .int .i64 k] [.cells [.int .i64 f, .sl 3 0 0 2 n none], .cells [.int .i64 0, .bool false, .bool false, .bool false], .cells [.int .i64 o, .bool a, .bool b, .bool true], .rows lpK rs]).den = Tree.den (Tree.ite (decide (k < (↑n : Int))) (Tree.ite (decide (0 ≤ k) && decide (k < (↑n : Int))) (Tree.ite (decide (0 + k.toNat < rs.length)) (Tree.ite ((V.toInt ((rs.getD (0 + k.toNat) []).getD 0 V.any)) == d) (Tree.ite (decide (0 ≤ k) && decide (k < (↑n : Int))) (Tree.ite (decide (0 + k.toNat < rs.length)) (Tree.ite ((V.toInt ((rs.getD (0 + k.toNat) []).getD 1 V.any)) == 1) (Tree.ite (decide (0 ≤ k) && decide (k < (↑n : Int))) (Tree.ite (decide (0 + k.toNat < rs.length)) (Tree.ite ((V.toInt ((rs.getD (0 + k.toNat) []).getD 0 V.any)) == d) (Tree.ite (decide (0 ≤ k) && decide (k < (↑n : Int))) (Tree.ite (decide (0 + k.toNat < rs.length)) (Tree.ite ((V.toInt ((rs.getD (0 + k.toNat) []).getD 1 V.any)) == -1) (Tree.leaf { e := Ex.nrm, vs := [V.ptr 0 0 0 0, V.ptr 1 0 0 0, V.ptr 2 0 0 0, V.int IntKind.i64 d, V.int IntKind.i64 (IntKind.i64.wrap (k + 1))], upd := [none, none, some (some (Body.cells [V.int IntKind.i64 o, V.tru, V.tru, V.bool true])), none], new := [] }) (Tree.leaf { e := Ex.nrm, vs := [V.ptr 0 0 0 0, V.ptr 1 0 0 0, V.ptr 2 0 0 0, V.int IntKind.i64 d, V.int IntKind.i64 (IntKind.i64.wrap (k + 1))], upd := [none, none, some (some (Body.cells [V.int IntKind.i64 o, V.tru, V.bool b, V.bool true])), none], new := [] })) Tree.fail) Tree.fail) (Tree.leaf { e := Ex.nrm, vs := [V.ptr 0 0 0 0, V.ptr 1 0 0 0, V.ptr 2 0 0 0, V.int IntKind.i64 d, V.int IntKind.i64 (IntKind.i64.wrap (k + 1))], upd := [none, none, some (some (Body.cells [V.int IntKind.i64 o, V.tru, V.bool b, V.bool true])), none], new := [] })) Tree.fail) Tree.fail) (Tree.ite (decide (0 ≤ k) && decide (k < (↑n : Int))) (Tree.ite (decide (0 + k.toNat < rs.length)) (Tree.ite ((V.toInt ((rs.getD (0 + k.toNat) []).getD 0 V.any)) == d) (Tree.ite (decide (0 ≤ k) && decide (k < (↑n : Int))) (Tree.ite (decide (0 + k.toNat < rs.length)) (Tree.ite ((V.toInt ((rs.getD (0 + k.toNat) []).getD 1 V.any)) == -1) (Tree.leaf { e := Ex.nrm, vs := [V.ptr 0 0 0 0, V.ptr 1 0 0 0, V.ptr 2 0 0 0, V.int IntKind.i64 d, V.int IntKind.i64 (IntKind.i64.wrap (k + 1))], upd := [none, none, some (some (Body.cells [V.int IntKind.i64 o, V.bool a, V.tru, V.bool true])), none], new := [] }) (Tree.leaf { e := Ex.nrm, vs := [V.ptr 0 0 0 0, V.ptr 1 0 0 0, V.ptr 2 0 0 0, V.int IntKind.i64 d, V.int IntKind.i64 (IntKind.i64.wrap (k + 1))], upd := [none, none, none, none], new := [] })) Tree.fail) Tree.fail) (Tree.leaf { e := Ex.nrm, vs := [V.ptr 0 0 0 0, V.ptr 1 0 0 0, V.ptr 2 0 0 0, V.int IntKind.i64 d, V.int IntKind.i64 (IntKind.i64.wrap (k + 1))], upd := [none, none, none, none], new := [] })) Tree.fail) Tree.fail)) Tree.fail) Tree.fail) (Tree.ite (decide (0 ≤ k) && decide (k < (↑n : Int))) (Tree.ite (decide (0 + k.toNat < rs.length)) (Tree.ite ((V.toInt ((rs.getD (0 + k.toNat) []).getD 0 V.any)) == d) (Tree.ite (decide (0 ≤ k) && decide (k < (↑n : Int))) (Tree.ite (decide (0 + k.toNat < rs.length)) (Tree.ite ((V.toInt ((rs.getD (0 + k.toNat) []).getD 1 V.any)) == -1) (Tree.leaf { e := Ex.nrm, vs := [V.ptr 0 0 0 0, V.ptr 1 0 0 0, V.ptr 2 0 0 0, V.int IntKind.i64 d, V.int IntKind.i64 (IntKind.i64.wrap (k + 1))], upd := [none, none, some (some (Body.cells [V.int IntKind.i64 o, V.bool a, V.tru, V.bool true])), none], new := [] }) (Tree.leaf { e := Ex.nrm, vs := [V.ptr 0 0 0 0, V.ptr 1 0 0 0, V.ptr 2 0 0 0, V.int IntKind.i64 d, V.int IntKind.i64 (IntKind.i64.wrap (k + 1))], upd := [none, none, none, none], new := [] })) Tree.fail) Tree.fail) (Tree.leaf { e := Ex.nrm, vs := [V.ptr 0 0 0 0, V.ptr 1 0 0 0, V.ptr 2 0 0 0, V.int IntKind.i64 d, V.int IntKind.i64 (IntKind.i64.wrap (k + 1))], upd := [none, none, none, none], new := [] })) Tree.fail) Tree.fail)) Tree.fail) Tree.fail) (Tree.leaf { e := Ex.exit 0, vs := [], upd := [none, none, none, none], new := [] })) := by
  kernel_rfl
def toU (o d : Int) (a b : Bool) : List Lp → Option (Option Blk)
  | [] => none
  | x :: xs => match toU o d (a || (true && ((x.day == d) && decide (x.sign > 0)))) (b || (true && ((x.day == d) && decide (x.sign < 0)))) xs with
    | some u => some u
    | none => match (x.day == d) with
      | true => some (some (.cells [.int .i64 o, .bool (a || (true && ((x.day == d) && decide (x.sign > 0)))), .bool (b || (true && ((x.day == d) && decide (x.sign < 0)))), .bool true]))
      | false => none
def toB (o : Int) (a b : Bool) : Blk := .cells [.int .i64 o, .bool a, .bool b, .bool true]
theorem toU_form (o d : Int) : ∀ (ls : List Lp) (a b : Bool), toU o d a b ls = none ∨ ∃ a' b', toU o d a b ls = some (some (toB o a' b'))
  | [], _, _ => .inl rfl
  | x :: xs, a, b => by
    rcases toU_form o d xs (a || (true && ((x.day == d) && decide (x.sign > 0)))) (b || (true && ((x.day == d) && decide (x.sign < 0)))) with h | ⟨a', b', h⟩
    · simp only [toU, h]
      cases (x.day == d)
      · exact .inl rfl
      · exact .inr ⟨_, _, rfl⟩
    · exact .inr ⟨a', b', by simp only [toU, h]⟩
theorem to_all {n : Nat} {f o d : Int} {rs : List (List V)} (hn : n = rs.length) (hn2 : n ≤ 1000000) : ∀ (rest : List Lp) (k : Nat) (p : Option Int) (a b : Bool), (lps rs).drop k = rest → k + rest.length = n → pre p rest = rest.length →
    loopM P (specsOf []) (loopsOf []) 88 [2, 4, 9, 10, 12] [] (loopAt Tryd.f20 0) (rest.length + 1) [.ptr 0 0 0 0, .ptr 1 0 0 0, .ptr 2 0 0 0, .int .i64 d, .int .i64 k] [.cells [.int .i64 f, .sl 3 0 0 2 n none], .cells [.int .i64 0, .bool false, .bool false, .bool false], .cells [.int .i64 o, .bool a, .bool b, .bool true], .rows lpK rs] = some ⟨.exit 0, [], [none, none, toU o d a b rest, none], []⟩ := by
  intro rest
  induction rest with
  | nil =>
    intro k p a b hr hk _
    have hx := to_round n f d o k a b rs
    rw [decide_eq_false (show ¬ (k : Int) < (n : Int) by simp at hk; omega)] at hx
    exact loopM_end hx (by show Ex.exit 0 ≠ Ex.nrm; decide) rfl
  | cons x xs ih =>
    intro k p a b hr hk hp
    simp only [List.length_cons] at hk
    obtain ⟨hx, hd⟩ := drop_get hr
    rw [lps_get] at hx
    obtain ⟨hg, hp'⟩ := pre_cons hp
    obtain ⟨d1, d2, d3, d4⟩ := okL_iff.1 hg
    have e1 : V.toInt ((rs.getD k []).getD 0 V.any) = x.day := by rw [← hx]; rfl
    have e2 : V.toInt ((rs.getD k []).getD 1 V.any) = x.sign := by rw [← hx]; rfl
    have st := to_round n f d o k a b rs
    have w6 : IntKind.i64.wrap ((k : Int) + 1) = ((k + 1 : Nat) : Int) := by rw [wrap64_id (by omega) (by omega)]; omega
    simp only [Nat.zero_add, Int.toNat_natCast, e1, e2, w6] at st
    rw [decide_eq_true (show (k : Int) < (n : Int) by omega), decide_eq_true (show (0 : Int) ≤ k by omega), decide_eq_true (show k < rs.length by omega)] at st
    have ih' := ih (k + 1) _ (a || (true && ((x.day == d) && decide (x.sign > 0)))) (b || (true && ((x.day == d) && decide (x.sign < 0)))) hd (by omega) hp'
    have hf := toU_form o d xs (a || (true && ((x.day == d) && decide (x.sign > 0)))) (b || (true && ((x.day == d) && decide (x.sign < 0))))
    have er : toU o d a b (x :: xs) = match toU o d (a || (true && ((x.day == d) && decide (x.sign > 0)))) (b || (true && ((x.day == d) && decide (x.sign < 0)))) xs with
      | some u => some u
      | none => match (x.day == d) with
        | true => some (some (.cells [.int .i64 o, .bool (a || (true && ((x.day == d) && decide (x.sign > 0)))), .bool (b || (true && ((x.day == d) && decide (x.sign < 0)))), .bool true]))
        | false => none := rfl
    rw [er]
    clear er e1 e2 hx ih
    rcases d3 with d3 | d3
    · rw [d3] at st ih' hf ⊢
      generalize (x.day == d) = E at st ih' hf ⊢
      cases a <;> cases b <;> cases E
      all_goals (rcases hf with hf | ⟨a', b', hf⟩; all_goals (rw [hf] at ih' ⊢; refine loopM_step st rfl (by kernel_rfl) (by kernel_rfl) (by kernel_rfl) ih' ?_; (show ((seqAfter _ _ _).den).map nrmL = some _; kernel_rfl)))
    · rw [d3] at st ih' hf ⊢
      generalize (x.day == d) = E at st ih' hf ⊢
      cases a <;> cases b <;> cases E
      all_goals (rcases hf with hf | ⟨a', b', hf⟩; all_goals (rw [hf] at ih' ⊢; refine loopM_step st rfl (by kernel_rfl) (by kernel_rfl) (by kernel_rfl) ih' ?_; (show ((seqAfter _ _ _).den).map nrmL = some _; kernel_rfl)))
end Go.Proofs.YtbfiaogmfjadeaaDoor

set_option maxRecDepth 100000
set_option linter.unusedSimpArgs false
set_option linter.unusedVariables false
namespace Go.Proofs.YtbfiaogmfjadeaaDoor
open Go.Rx
def hit (d : Int) (ls : List Lp) : Bool := ls.any fun x => x.day == d
theorem toU_eq (o d : Int) : ∀ (ls : List Lp) (a b : Bool), (hit d ls = true → toU o d a b ls = some (some (.cells [.int .i64 o, .bool (fl61 d true a ls), .bool (fl59 d true b ls), .bool true]))) ∧
    (hit d ls = false → toU o d a b ls = none ∧ fl61 d true a ls = a ∧ fl59 d true b ls = b)
  | [], a, b => ⟨fun h => by simp [hit] at h, fun _ => ⟨rfl, rfl, rfl⟩⟩
  | x :: xs, a, b => by
    obtain ⟨h1, h2⟩ := toU_eq o d xs (a || (true && ((x.day == d) && decide (x.sign > 0)))) (b || (true && ((x.day == d) && decide (x.sign < 0))))
    have hh : hit d (x :: xs) = ((x.day == d) || hit d xs) := rfl
    cases hx : hit d xs with
    | true =>
      refine ⟨fun _ => ?_, fun h => by rw [hh, hx] at h; simp at h⟩
      simp only [toU, h1 hx]; rfl
    | false =>
      obtain ⟨q1, q2, q3⟩ := h2 hx
      constructor
      · intro h
        rw [hh, hx, Bool.or_false] at h
        simp only [toU, q1, fl61, fl59, q2, q3]
        simp only [h]
      · intro h
        rw [hh, hx, Bool.or_false] at h
        simp only [h, Bool.false_and, Bool.and_false, Bool.or_false] at q1 q2 q3
        simp only [toU, fl61, fl59, h, Bool.false_and, Bool.and_false, Bool.or_false, q1, q2, q3]
        exact ⟨trivial, trivial, trivial⟩
def toF (vals : List V) (bs : List Blk) : Tree LRes := match vals, bs with
  | [.ptr 0 0 0 0, .ptr 1 0 0 0, .ptr 2 0 0 0, .int .i64 d, .int .i64 k], [.cells [.int .i64 f, .sl 3 0 0 2 n none], .cells [.int .i64 0, .bool false, .bool false, .bool false], .cells [.int .i64 o, .bool false, .bool false, .bool true], .rows [.int .i64, .int .i64] rs] =>
    .need (decide (n = rs.length) && decide (k = 0) && decide (n ≤ 1000000) && decide (pre none (lps rs) = (lps rs).length)) (.ite (hit d (lps rs)) (.leaf ⟨.exit 0, [], [none, none, some (some (.cells [.int .i64 o, .bool (fl61 d true false (lps rs)), .bool (fl59 d true false (lps rs)), .bool true])), none], []⟩) (.leaf ⟨.exit 0, [], [none, none, none, none], []⟩))
  | _, _ => .fail
def toL : LSpec := ⟨88, [2, 4, 9, 10, 12], [], toF⟩
theorem to_loop : LoopOK P (loopAt Tryd.f20 0) toL.nz := by
  refine loop_okM (GammaOK.nil P) Go.Proofs.YtbfiaogmfjadeaaDoor.hm (Λ := loopsOf []) (LoopsOK.nil (by kernel_rfl)) _ ?_
  intro vals bs r h
  simp only [toL, toF] at h
  split at h
  · rename_i d k f n o rs
    rw [den_need, denI, denLf, denLf] at h
    simp only [Bool.and_eq_true, decide_eq_true_eq] at h
    obtain ⟨⟨⟨⟨h1, rfl⟩, h3⟩, h4⟩, h⟩ := h
    have := to_all (o := o) (d := d) (f := f) h1 h3 (lps rs) 0 none false false rfl (by rw [lps_len]; omega) h4
    refine ⟨(lps rs).length + 1, this.trans ?_⟩
    obtain ⟨q1, q2⟩ := toU_eq o d (lps rs) false false
    cases hh : hit d (lps rs) with
    | true => rw [hh, if_pos rfl] at h; cases h; rw [q1 hh]; rfl
    | false => rw [hh, if_neg (by decide)] at h; cases h; rw [(q2 hh).1]; rfl
  · simp [den_fail] at h
abbrev tdG : List (Nat × Rx.Spec) := [(17, rlbS), (15, lkS), (38, dayS)]
theorem tdG_ok : GammaOK P tdG := .cons rlb_ok (.cons lk_ok (.cons refDay_ok (.nil P)))
def tdS : Rx.Spec := fun a b => match a, b with
  | [.agg [.int .i64 f, .sl 0 0 0 2 n none], .int .i64 t], [.rows [.int .i64, .int .i64] rs] => .need (decide (n = rs.length) && goodT f (lps rs) && decide (t ≤ 9000000000000000000)) (.ite (labB f (lps rs) t) (.leaf ⟨(noteT f (lps rs) t).v, [none], []⟩) (.leaf ⟨Nte.zero.v, [none], []⟩))
  | _, _ => .fail
theorem fl_false (d : Int) : ∀ (ls : List Lp) (a : Bool), fl61 d false a ls = a ∧ fl59 d false a ls = a
  | [], _ => ⟨rfl, rfl⟩
  | x :: xs, a => by simp only [fl61, fl59, Bool.false_and, Bool.or_false]; exact fl_false d xs a
theorem td_ok : SpecOK P 20 tdS := by
  refine specOK_fast tdG_ok hm (Λ := loopsOf [(10, toL.nz)]) Tryd.func20 (by kernel_rfl) (LoopsOK.one (by kernel_rfl) to_loop) ?_
  intro args bs r h
  unfold tdS at h
  split at h
  · rename_i f n t rs
    rw [den_need, denI, denLf, denLf] at h
    simp only [Bool.and_eq_true, decide_eq_true_eq] at h
    obtain ⟨⟨⟨h1, hg⟩, ht⟩, hk⟩ := h
    obtain ⟨g1, g2, g3, g4⟩ := goodT_iff.1 hg
    have hll := lps_len rs
    rw [show (fFn P (specsOf tdG) (loopsOf [(10, toL.nz)]) Tryd.f20 [.agg [.int .i64 f, .sl 0 0 0 2 n none], .int .i64 t] [.rows lpK rs]).denN = Tree.denN (Tree.ite (decide (n = rs.length) && goodT f (lps rs) && decide (t ≤ 9000000000000000000)) (Tree.ite (labB f (lps rs) t) (Tree.ite (decide (n = rs.length) && goodT f (lps rs)) (Tree.ite (dayB (labL f (lps rs) t).1 (labL f (lps rs) t).2 (labL f (lps rs) t).3) (Tree.ite (decide ((labL f (lps rs) t).4 < 12)) (Tree.leaf { v := V.agg [V.int IntKind.i64 (lookF f (lps rs) t).fst, V.fls, V.fls, V.tru], upd := [none], new := [] }) (Tree.ite (decide (n = rs.length) && true && decide (n ≤ 1000000) && decide (pre none (lps rs) = (lps rs).length)) (Tree.ite (hit (dayZ (labL f (lps rs) t).1 (labL f (lps rs) t).2 (labL f (lps rs) t).3) (lps rs)) (Tree.leaf { v := V.agg [V.int IntKind.i64 (lookF f (lps rs) t).fst, V.bool (fl61 (dayZ (labL f (lps rs) t).1 (labL f (lps rs) t).2 (labL f (lps rs) t).3) true false (lps rs)), V.bool (fl59 (dayZ (labL f (lps rs) t).1 (labL f (lps rs) t).2 (labL f (lps rs) t).3) true false (lps rs)), V.bool true], upd := [none], new := [] }) (Tree.leaf { v := V.agg [V.int IntKind.i64 (lookF f (lps rs) t).fst, V.fls, V.fls, V.tru], upd := [none], new := [] })) Tree.fail)) (Tree.ite (decide ((labL f (lps rs) t).4 < 12)) (Tree.leaf { v := V.agg [V.int IntKind.i64 (lookF f (lps rs) t).fst, V.fls, V.fls, V.tru], upd := [none], new := [] }) (Tree.ite (decide (n = rs.length) && true && decide (n ≤ 1000000) && decide (pre none (lps rs) = (lps rs).length)) (Tree.ite (hit 0 (lps rs)) (Tree.leaf { v := V.agg [V.int IntKind.i64 (lookF f (lps rs) t).fst, V.bool (fl61 0 true false (lps rs)), V.bool (fl59 0 true false (lps rs)), V.bool true], upd := [none], new := [] }) (Tree.leaf { v := V.agg [V.int IntKind.i64 (lookF f (lps rs) t).fst, V.fls, V.fls, V.tru], upd := [none], new := [] })) Tree.fail))) Tree.fail) (Tree.leaf { v := V.agg [V.int IntKind.i64 0, V.fls, V.fls, V.fls], upd := [none], new := [] })) Tree.fail) from by kernel_rfl]
    simp only [denN_ite, denN_leaf, denN_fail, decide_eq_true h1, hg, decide_eq_true ht]
    cases hb : labB f (lps rs) t with
    | false => rw [hb, if_neg (by decide)] at hk; cases hk; rfl
    | true =>
      rw [hb, if_pos rfl] at hk; cases hk
      obtain ⟨l1, l2, l3, l4⟩ := lab_right hg hb
      have hd := (right_mem l1).1
      rw [hd]
      simp only [g4, decide_true, decide_eq_true (show n ≤ 1000000 by omega)]
      unfold noteT
      by_cases hh : (labL f (lps rs) t).h < 12
      · rw [decide_eq_true hh, decide_eq_false (show ¬ 12 ≤ (labL f (lps rs) t).h by omega), (fl_false _ _ _).1, (fl_false _ _ _).2]; rfl
      · rw [decide_eq_false hh, decide_eq_true (show 12 ≤ (labL f (lps rs) t).h by omega)]
        cases hq : hit (dayZ (labL f (lps rs) t).y (labL f (lps rs) t).mo (labL f (lps rs) t).d) (lps rs) with
        | true => rfl
        | false =>
          obtain ⟨_, q2⟩ := toU_eq 0 (dayZ (labL f (lps rs) t).y (labL f (lps rs) t).mo (labL f (lps rs) t).d) (lps rs) false false
          obtain ⟨_, q3, q4⟩ := q2 hq
          rw [q3, q4]; rfl
  · simp [den_fail] at h
/-! ### The law's helpers -/
theorem mdA_round (n m : Nat) (f N k : Int) (rs qs : List (List V)) : (evRound P (specsOf kpG) (loopsOf []) 35 [1, 4, 10, 11, 12] [4] (loopAt Tryd.f11 0) [.ptr 0 0 0 0, .sl 1 0 0 2 m none, .sl 2 0 0 2 n none, .int .i64 N, .int .i64 k] [.cells [.int .i64 f, .sl 2 0 0 2 n none], .rows lpK qs, .rows lpK rs]).den = Tree.den (Tree.ite (decide (k < N)) (Tree.ite (decide (0 ≤ k) && decide (k < (↑n : Int))) (Tree.ite (decide (0 + k.toNat < rs.length)) (Tree.ite (decide (0 + m ≤ qs.length) && true) (Tree.ite (decide ((List.take m (List.drop 0 qs) ++ [[V.int IntKind.i64 (V.toInt ((rs.getD (0 + k.toNat) []).getD 0 V.any)), V.int IntKind.i64 (V.toInt ((rs.getD (0 + k.toNat) []).getD 1 V.any))]]).length * 16 ≤ 140737488355328)) (Tree.leaf { e := Ex.nrm, vs := [V.ptr 0 0 0 0, V.sl 3 0 0 2 (List.take m (List.drop 0 qs) ++ [[V.int IntKind.i64 (V.toInt ((rs.getD (0 + k.toNat) []).getD 0 V.any)), V.int IntKind.i64 (V.toInt ((rs.getD (0 + k.toNat) []).getD 1 V.any))]]).length none, V.sl 2 0 0 2 n none, V.int IntKind.i64 N, V.int IntKind.i64 (IntKind.i64.wrap (k + 1))], upd := [none, some none, none], new := [Body.rows [K.int IntKind.i64, K.int IntKind.i64] (List.take m (List.drop 0 qs) ++ [[V.int IntKind.i64 (V.toInt ((rs.getD (0 + k.toNat) []).getD 0 V.any)), V.int IntKind.i64 (V.toInt ((rs.getD (0 + k.toNat) []).getD 1 V.any))]])] }) Tree.fail) Tree.fail) Tree.fail) Tree.fail) (Tree.leaf { e := Ex.exit 0, vs := [V.sl 1 0 0 2 m none], upd := [none, none, none], new := [] })) := by
  kernel_rfl
theorem mdN_round (n : Nat) (f N k : Int) (rs : List (List V)) : (evRound P (specsOf kpG) (loopsOf []) 35 [1, 4, 10, 11, 12] [4] (loopAt Tryd.f11 0) [.ptr 0 0 0 0, .nils, .sl 1 0 0 2 n none, .int .i64 N, .int .i64 k] [.cells [.int .i64 f, .sl 1 0 0 2 n none], .rows lpK rs]).den = Tree.den (Tree.ite (decide (k < N)) (Tree.ite (decide (0 ≤ k) && decide (k < (↑n : Int))) (Tree.ite (decide (0 + k.toNat < rs.length)) (Tree.leaf { e := Ex.nrm, vs := [V.ptr 0 0 0 0, V.sl 2 0 0 2 1 none, V.sl 1 0 0 2 n none, V.int IntKind.i64 N, V.int IntKind.i64 (IntKind.i64.wrap (k + 1))], upd := [none, none], new := [Body.rows [K.int IntKind.i64, K.int IntKind.i64] [[V.int IntKind.i64 (V.toInt ((rs.getD (0 + k.toNat) []).getD 0 V.any)), V.int IntKind.i64 (V.toInt ((rs.getD (0 + k.toNat) []).getD 1 V.any))]]] }) Tree.fail) Tree.fail) (Tree.leaf { e := Ex.exit 0, vs := [V.nils], upd := [none, none], new := [] })) := by
  kernel_rfl
def mdR (qs : List (List V)) : List Lp → LRes
  | [] => ⟨.exit 0, [.sl 1 0 0 2 qs.length none], [none, none, none], []⟩
  | x :: xs => ⟨.exit 0, [.sl 3 0 0 2 (qs ++ lpRows (x :: xs)).length none], [none, some none, none], [.rows lpK (qs ++ lpRows (x :: xs))]⟩
theorem mdA_all {n : Nat} {f : Int} {rs : List (List V)} (hn : n = rs.length) (hn2 : n * 16 ≤ 140737488351232) : ∀ (rest : List Lp) (k : Nat) (qs : List (List V)), (lps rs).drop k = rest → k + rest.length = n → qs.length = k →
    (loopN P (specsOf kpG) (loopsOf []) 35 [1, 4, 10, 11, 12] [4] (loopAt Tryd.f11 0) (rest.length + 1) [.ptr 0 0 0 0, .sl 1 0 0 2 qs.length none, .sl 2 0 0 2 n none, .int .i64 n, .int .i64 k] [.cells [.int .i64 f, .sl 2 0 0 2 n none], .rows lpK qs, .rows lpK rs]).den = some (mdR qs rest) := by
  intro rest
  induction rest with
  | nil =>
    intro k qs hr hk hq
    have hx := mdA_round n qs.length f n k rs qs
    rw [decide_eq_false (show ¬ (k : Int) < (n : Int) by simp at hk; omega)] at hx
    exact loopN_end hx (by show Ex.exit 0 ≠ Ex.nrm; decide)
  | cons x xs ih =>
    intro k qs hr hk hq
    simp only [List.length_cons] at hk
    obtain ⟨hx, hd⟩ := drop_get hr
    rw [lps_get] at hx
    have e1 : V.toInt ((rs.getD k []).getD 0 V.any) = x.day := by rw [← hx]; rfl
    have e2 : V.toInt ((rs.getD k []).getD 1 V.any) = x.sign := by rw [← hx]; rfl
    have st := mdA_round n qs.length f n k rs qs
    have w6 : IntKind.i64.wrap ((k : Int) + 1) = ((k + 1 : Nat) : Int) := by rw [wrap64_id (by omega) (by omega)]; omega
    simp only [Nat.zero_add, Int.toNat_natCast, e1, e2, w6, List.drop_zero, List.take_length] at st
    have hl : (qs ++ [[V.int IntKind.i64 x.day, V.int IntKind.i64 x.sign]]).length * 16 ≤ 140737488355328 := by simp; omega
    rw [decide_eq_true (show (k : Int) < (n : Int) by omega), decide_eq_true (show (0 : Int) ≤ k by omega), decide_eq_true (show k < rs.length by omega), decide_eq_true (Nat.le_refl qs.length), decide_eq_true hl] at st
    have ih' := ih (k + 1) (qs ++ [lpRow x]) hd (by omega) (by simp; omega)
    refine loopN_step st rfl (vals' := [.ptr 0 0 0 0, .sl 1 0 0 2 (qs ++ [lpRow x]).length none, .sl 2 0 0 2 n none, .int .i64 n, .int .i64 ((k + 1 : Nat) : Int)]) (bs' := [.cells [.int .i64 f, .sl 2 0 0 2 n none], .rows lpK (qs ++ [lpRow x]), .rows lpK rs]) (by kernel_rfl) (by kernel_rfl) (by kernel_rfl) ih' ?_
    cases xs with
    | nil =>
      rw [mdR, mdR, show qs ++ lpRows [x] = qs ++ [lpRow x] from rfl]
      (show (seqAfter _ _ _).den = some _; kernel_rfl)
    | cons y ys =>
      rw [mdR, mdR, show qs ++ lpRows (x :: y :: ys) = (qs ++ [lpRow x]) ++ lpRows (y :: ys) by simp [lpRows]]
      (show (seqAfter _ _ _).den = some _; kernel_rfl)
def mdF (vals : List V) (bs : List Blk) : Tree LRes := match vals, bs with
  | [.ptr 0 0 0 0, .nils, .sl 1 0 0 2 n none, .int .i64 N, .int .i64 k], [.cells [.int .i64 f, .sl 1 0 0 2 n' none], .rows [.int .i64, .int .i64] rs] =>
    .need (decide (n' = n) && decide (n = rs.length) && decide (N = n) && decide (k = 0) && decide (n * 16 ≤ 140737488351232)) (.ite (decide (n = 0)) (.leaf ⟨.exit 0, [.nils], [none, none], []⟩) (.leaf ⟨.exit 0, [.sl 2 0 0 2 n none], [none, none], [.rows [.int .i64, .int .i64] (lpRows (lps rs))]⟩))
  | _, _ => .fail
def mdL : LSpec := ⟨35, [1, 4, 10, 11, 12], [4], mdF⟩
theorem lpRows_len (l : List Lp) : (lpRows l).length = l.length := by simp [lpRows]
theorem md_loop : LoopOK P (loopAt Tryd.f11 0) mdL := by
  refine loop_ok kpG_ok Go.Proofs.YtbfiaogmfjadeaaDoor.hm (Λ := loopsOf []) (LoopsOK.nil (by kernel_rfl)) _ ?_
  intro vals bs r h
  simp only [mdL, mdF] at h
  split at h
  · rename_i n N k f n' rs
    rw [den_need, denI, denLf, denLf] at h
    simp only [Bool.and_eq_true, decide_eq_true_eq] at h
    obtain ⟨⟨⟨⟨⟨rfl, h1⟩, rfl⟩, rfl⟩, h5⟩, h⟩ := h
    refine ⟨(lps rs).length + 1, ?_⟩
    have hll := lps_len rs
    by_cases h0 : n' = 0
    · rw [if_pos h0] at h; cases h
      have hz : (lps rs).length + 1 = 0 + 1 := by omega
      rw [hz]
      have hx := mdN_round n' f n' 0 rs
      rw [decide_eq_false (show ¬ (0 : Int) < (n' : Int) by omega)] at hx
      exact loopN_end hx (by show Ex.exit 0 ≠ Ex.nrm; decide)
    · rw [if_neg h0] at h; cases h
      cases hls : lps rs with
      | nil => rw [hls] at hll; simp at hll; omega
      | cons x xs =>
        obtain ⟨hx, hd⟩ := drop_get (ls := lps rs) (k := 0) hls
        rw [lps_get] at hx
        rw [hls] at hll
        simp only [List.length_cons] at hll
        have e1 : V.toInt ((rs.getD 0 []).getD 0 V.any) = x.day := by rw [← hx]; rfl
        have e2 : V.toInt ((rs.getD 0 []).getD 1 V.any) = x.sign := by rw [← hx]; rfl
        have st := mdN_round n' f n' 0 rs
        have w6 : IntKind.i64.wrap ((0 : Int) + 1) = ((1 : Nat) : Int) := by rw [wrap64_id (by omega) (by omega)]; omega
        simp only [Nat.zero_add, Int.toNat_zero, e1, e2, w6] at st
        rw [decide_eq_true (show (0 : Int) < (n' : Int) by omega), decide_eq_true (show 0 < rs.length by omega)] at st
        have ih' := mdA_all (f := f) h1 h5 xs 1 [lpRow x] hd (by omega) rfl
        refine loopN_step st rfl (vals' := [.ptr 0 0 0 0, .sl 1 0 0 2 [lpRow x].length none, .sl 2 0 0 2 n' none, .int .i64 n', .int .i64 ((1 : Nat) : Int)]) (bs' := [.cells [.int .i64 f, .sl 2 0 0 2 n' none], .rows lpK [lpRow x], .rows lpK rs]) (by kernel_rfl) (by kernel_rfl) (by kernel_rfl) ih' ?_
        have hn' : n' = (lpRows (x :: xs)).length := by rw [lpRows_len]; simp; omega
        cases xs with
        | nil =>
          have : n' = 1 := hn'
          rw [this]
          (show (seqAfter _ _ _).den = some _; kernel_rfl)
        | cons y ys =>
          rw [show V.sl 2 0 0 2 n' none = V.sl 2 0 0 2 (lpRows (x :: y :: ys)).length none by rw [← hn'], mdR, show [lpRow x] ++ lpRows (y :: ys) = lpRows (x :: y :: ys) from rfl]
          (show (seqAfter _ _ _).den = some _; kernel_rfl)
  · simp [den_fail] at h
end Go.Proofs.YtbfiaogmfjadeaaDoor

set_option maxRecDepth 100000
set_option linter.unusedSimpArgs false
set_option linter.unusedVariables false
namespace Go.Proofs.YtbfiaogmfjadeaaDoor
open Go.Rx
abbrev mkG : List (Nat × Rx.Spec) := [kpE, (21, newS)]
theorem mkG_ok : GammaOK P mkG := .cons keep_ok (.cons new_ok (.nil P))
def mkS : Rx.Spec := fun a b => match a, b with
  | [.agg [.int .i64 f, .sl 0 0 0 2 n none]], [.rows [.int .i64, .int .i64] rs] => .need (decide (n = rs.length) && decide (n * 16 ≤ 140737488351232)) (.ite (goodT f (lps rs)) (.ite (decide (n = 0)) (.leaf ⟨.tup [.ptr 1 0 0 0, .bool true], [none], [.cells [.nils, .sl 2 0 0 1 1 (some 1), .nils], .ints .i64 [f]]⟩) (.leaf ⟨.tup [.ptr 1 0 0 0, .bool true], [none], [.cells [.sl 2 0 0 2 n none, .sl 3 0 0 1 (n + 1) none, .sl 4 0 0 1 n none], .rows [.int .i64, .int .i64] (lpRows (lps rs)), .ints .i64 (f :: offsF f (lps rs)), .ints .i64 (stF f (lps rs))]⟩)) (.leaf ⟨.tup [.nilp, .bool false], [none], []⟩))
  | _, _ => .fail
theorem lps_nil {rs : List (List V)} (h : rs.length = 0) : lps rs = [] := by
  cases rs with
  | nil => rfl
  | cons => simp at h
theorem mk_ok : SpecOK P 11 mkS := by
  refine specOK_fast mkG_ok hm (Λ := loopsOf [(3, mdL)]) Tryd.func11 (by kernel_rfl) (LoopsOK.one (by kernel_rfl) md_loop) ?_
  intro args bs r h
  unfold mkS at h
  split at h
  · rename_i f n rs
    rw [den_need, denI, denI, denLf, denLf, denLf] at h
    simp only [Bool.and_eq_true, decide_eq_true_eq] at h
    obtain ⟨⟨h1, h2⟩, h⟩ := h
    rw [show (fFn P (specsOf mkG) (loopsOf [(3, mdL)]) Tryd.f11 [.agg [.int .i64 f, .sl 0 0 0 2 n none]] [.rows lpK rs]).denN = Tree.denN (Tree.ite (decide (n = n) && decide (n = rs.length) && decide ((↑n : Int) = (↑n : Int)) && true && decide (n * 16 ≤ 140737488351232)) (Tree.ite (decide (n = 0)) (Tree.ite (goodT f []) (Tree.leaf { v := V.tup [V.ptr 1 0 0 0, V.tru], upd := [none], new := [Body.cells [V.nils, V.sl 2 0 0 1 1 (some 1), V.nils], Body.ints IntKind.i64 [f]] }) (Tree.leaf { v := V.tup [V.nilp, V.fls], upd := [none], new := [] })) (Tree.ite (decide (n = (lpRows (lps rs)).length) && decide (1 ≤ n)) (Tree.ite (goodT f (lps (lpRows (lps rs)))) (Tree.leaf { v := V.tup [V.ptr 1 0 0 0, V.tru], upd := [none], new := [Body.cells [V.sl 2 0 0 2 n none, V.sl 3 0 0 1 (n + 1) none, V.sl 4 0 0 1 n none], Body.rows [K.int IntKind.i64, K.int IntKind.i64] (lpRows (lps rs)), Body.ints IntKind.i64 (f :: offsF f (lps (lpRows (lps rs)))), Body.ints IntKind.i64 (stF f (lps (lpRows (lps rs))))] }) (Tree.leaf { v := V.tup [V.nilp, V.fls], upd := [none], new := [] })) Tree.fail)) Tree.fail) from by kernel_rfl]
    simp only [denN_ite, denN_leaf, denN_fail, decide_eq_true h1, decide_eq_true h2, decide_true, lps_rows, lpRows_len]
    by_cases h0 : n = 0
    · rw [decide_eq_true h0]
      have e : lps rs = [] := lps_nil (by omega)
      rw [e] at h
      rw [if_pos h0] at h
      cases hg : goodT f [] <;> rw [hg] at h <;> cases h <;> rfl
    · rw [decide_eq_false h0, decide_eq_true (show n = (lps rs).length by rw [lps_len]; exact h1), decide_eq_true (show 1 ≤ n by omega)]
      rw [if_neg h0] at h
      cases hg : goodT f (lps rs) <;> rw [hg] at h <;> cases h <;> rfl
  · simp [den_fail] at h
def farB (t : Int) : Bool := decide (t < -1125899906842624) || decide (t > 1125899906842624)
def farS : Rx.Spec := fun a b => match a, b with
  | [.int .i64 t], [] => .leaf ⟨.bool (farB t), [], []⟩
  | _, _ => .fail
theorem far_ok : SpecOK P 13 farS := by
  refine specOK_fast (GammaOK.nil P) hm (Λ := loopsOf []) Tryd.func13 (by kernel_rfl) (LoopsOK.nil (by kernel_rfl)) ?_
  intro args bs r h
  unfold farS at h
  split at h
  · rename_i t
    rw [denLf] at h; cases h
    rw [show (fFn P (specsOf []) (loopsOf []) Tryd.f13 [.int .i64 t] []).denN = Tree.denN (Tree.ite (decide (t < -1125899906842624)) (Tree.leaf { v := V.tru, upd := [], new := [] }) (Tree.leaf { v := V.bool (decide (t > 1125899906842624)), upd := [], new := [] })) from by kernel_rfl]
    simp only [denN_ite, denN_leaf, denN_fail]
    unfold farB
    cases decide (t < -1125899906842624) <;> rfl
  · simp [den_fail] at h
abbrev alG : List (Nat × Rx.Spec) := [kpE, (21, newS), (16, lbS), (32, textS), (18, offS), (19, noS)]
theorem alG_ok : GammaOK P alG := .cons keep_ok (.cons new_ok (.cons lb_ok (.cons text_ok (.cons off_ok (.cons no_ok (.nil P))))))
def alS : Rx.Spec := fun a b => match a, b with
  | [], [] => .leaf ⟨.bool true, [], []⟩
  | _, _ => .fail
theorem al_ok : SpecOK P 14 alS := by
  refine specOK_fast alG_ok hm (Λ := loopsOf []) Tryd.func14 (by kernel_rfl) (LoopsOK.nil (by kernel_rfl)) ?_
  intro args bs r h
  unfold alS at h
  split at h
  · rw [denLf] at h; cases h
    rw [show (fFn P (specsOf alG) (loopsOf []) Tryd.f14 [] []).denN = Tree.denN (Tree.leaf { v := V.bool true, upd := [], new := [] }) from by kernel_rfl]
    rfl
  · simp [den_fail] at h
end Go.Proofs.YtbfiaogmfjadeaaDoor

set_option maxRecDepth 100000
set_option linter.unusedSimpArgs false
set_option linter.unusedVariables false
namespace Go.Proofs.YtbfiaogmfjadeaaDoor
open Go.Rx
/-- How many ends of days with leaps a label's second has behind it. -/
def leadE (s : Int) : List Lp → Nat
  | [] => 0
  | x :: xs => if (x.day + 1) * 86400 > s then 0 else leadE s xs + 1
theorem leadE_le (s : Int) : ∀ ls : List Lp, leadE s ls ≤ ls.length
  | [] => Nat.le_refl _
  | x :: xs => by
    have := leadE_le s xs
    simp only [leadE, List.length_cons]; split <;> omega
theorem look_head {d f t : Int} {xs : List Lp} (h : pre (some d) xs = xs.length) (ht : t < (d + 3) * 86400 + f - 1) : lookF f xs t = (f, none) := by
  cases xs with
  | nil => rfl
  | cons x xs =>
    obtain ⟨h1, _⟩ := pre_cons h
    obtain ⟨a1, a2, a3, a4⟩ := okL_iff.1 h1
    have := a4 d rfl
    rcases a3 with a3 | a3
    · rw [lookF, if_pos a3, if_neg (by omega), if_neg (by omega)]
    · rw [lookF, if_neg (by omega), if_neg (by omega)]
theorem leadE_head {d s : Int} {xs : List Lp} (h : pre (some d) xs = xs.length) (ht : s < (d + 3) * 86400) : leadE s xs = 0 := by
  cases xs with
  | nil => rfl
  | cons x xs =>
    obtain ⟨h1, _⟩ := pre_cons h
    obtain ⟨a1, a2, a3, a4⟩ := okL_iff.1 h1
    have := a4 d rfl
    rw [leadE, if_pos (by omega)]
theorem look_ge (t : Int) : ∀ (ls : List Lp) (d f : Int), pre (some d) ls = ls.length → t ≥ (d + 1) * 86400 + f → t - (lookF f ls t).1 ≥ (d + 1) * 86400
  | [], d, f, _, h => by simp only [lookF]; omega
  | x :: xs, d, f, hp, h => by
    obtain ⟨h1, h2⟩ := pre_cons hp
    obtain ⟨a1, a2, a3, a4⟩ := okL_iff.1 h1
    have := a4 d rfl
    rcases a3 with a3 | a3
    · by_cases c2 : t = (x.day + 1) * 86400 + f
      · rw [lookF, if_pos a3, if_pos c2]; simp only; omega
      · by_cases c3 : t > (x.day + 1) * 86400 + f
        · rw [lookF, if_pos a3, if_neg c2, if_pos c3]
          have := look_ge t xs x.day (f + 1) h2 (by omega)
          omega
        · rw [lookF, if_pos a3, if_neg c2, if_neg c3]; simp only; omega
    · by_cases c3 : t ≥ (x.day + 1) * 86400 - 1 + f
      · rw [lookF, if_neg (by omega), if_pos c3]
        have := look_ge t xs x.day (f - 1) h2 (by omega)
        omega
      · rw [lookF, if_neg (by omega), if_neg c3]; simp only; omega
/-- The offset, found by the label's second. -/
theorem look_key (t : Int) : ∀ (ls : List Lp) (p : Option Int) (f : Int), pre p ls = ls.length →
    ((lookF f ls t).2 = none → (f :: offsF f ls).getD (leadE (t - (lookF f ls t).1) ls) 0 = (lookF f ls t).1) ∧
    ((lookF f ls t).2 ≠ none → 1 ≤ leadE (t - (lookF f ls t).1) ls ∧ (f :: offsF f ls).getD (leadE (t - (lookF f ls t).1) ls - 1) 0 = (lookF f ls t).1)
  | [], p, f, _ => ⟨fun _ => rfl, fun h => absurd rfl h⟩
  | x :: xs, p, f, hp => by
    obtain ⟨h1, h2⟩ := pre_cons hp
    obtain ⟨a1, a2, a3, a4⟩ := okL_iff.1 h1
    have rec_ : ∀ f', f' = f + x.sign → lookF f (x :: xs) t = lookF f' xs t → t ≥ (x.day + 1) * 86400 + f' → ((lookF f (x :: xs) t).2 = none → (f :: offsF f (x :: xs)).getD (leadE (t - (lookF f (x :: xs) t).1) (x :: xs)) 0 = (lookF f (x :: xs) t).1) ∧
    ((lookF f (x :: xs) t).2 ≠ none → 1 ≤ leadE (t - (lookF f (x :: xs) t).1) (x :: xs) ∧ (f :: offsF f (x :: xs)).getD (leadE (t - (lookF f (x :: xs) t).1) (x :: xs) - 1) 0 = (lookF f (x :: xs) t).1) := by
      intro f' hf' e hge
      obtain ⟨k1, k2⟩ := look_key t xs (some x.day) f' h2
      have hl := look_ge t xs x.day f' h2 hge
      have el : leadE (t - (lookF f' xs t).1) (x :: xs) = leadE (t - (lookF f' xs t).1) xs + 1 := by rw [leadE, if_neg (by omega)]
      rw [e, el]
      simp only [offsF, ← hf']
      refine ⟨fun h => ?_, fun h => ⟨by omega, ?_⟩⟩
      · rw [List.getD_cons_succ]; exact k1 h
      · obtain ⟨k3, k4⟩ := k2 h
        rw [Nat.add_sub_cancel]
        rw [show leadE (t - (lookF f' xs t).1) xs = (leadE (t - (lookF f' xs t).1) xs - 1) + 1 by omega, List.getD_cons_succ]
        exact k4
    rcases a3 with a3 | a3
    · by_cases c2 : t = (x.day + 1) * 86400 + f
      · have e : lookF f (x :: xs) t = (f, some x.day) := by rw [lookF, if_pos a3, if_pos c2]
        rw [e]
        have el : leadE (t - f) (x :: xs) = 1 := by rw [leadE, if_neg (by omega), leadE_head h2 (by omega)]
        simp only [el]
        exact ⟨fun h => by simp at h, fun _ => ⟨by omega, rfl⟩⟩
      · by_cases c3 : t > (x.day + 1) * 86400 + f
        · exact rec_ (f + 1) (by omega) (by rw [lookF, if_pos a3, if_neg c2, if_pos c3]) (by omega)
        · have e : lookF f (x :: xs) t = (f, none) := by rw [lookF, if_pos a3, if_neg c2, if_neg c3]
          rw [e]
          have el : leadE (t - f) (x :: xs) = 0 := by rw [leadE, if_pos (by omega)]
          simp only [el]
          exact ⟨fun _ => rfl, fun h => absurd rfl h⟩
    · by_cases c3 : t ≥ (x.day + 1) * 86400 - 1 + f
      · exact rec_ (f - 1) (by omega) (by rw [lookF, if_neg (by omega), if_pos c3]) (by omega)
      · have e : lookF f (x :: xs) t = (f, none) := by rw [lookF, if_neg (by omega), if_neg c3]
        rw [e]
        have el : leadE (t - f) (x :: xs) = 0 := by rw [leadE, if_pos (by omega)]
        simp only [el]
        exact ⟨fun _ => rfl, fun h => absurd rfl h⟩
/-- How the offset changes within one second. -/
theorem look_next (t : Int) : ∀ (ls : List Lp) (p : Option Int) (f : Int), pre p ls = ls.length →
    ((lookF f ls (t + 1)).1 = (lookF f ls t).1 ∧ (lookF f ls t).2 = none) ∨ ((lookF f ls (t + 1)).1 = (lookF f ls t).1 + 1 ∧ (lookF f ls t).2 ≠ none ∧ (lookF f ls (t + 1)).2 = none) ∨
    ((lookF f ls (t + 1)).1 = (lookF f ls t).1 - 1 ∧ (lookF f ls t).2 = none ∧ (lookF f ls (t + 1)).2 = none ∧ ∃ d : Int, t + 1 - (lookF f ls (t + 1)).1 = d * 86400)
  | [], p, f, _ => .inl ⟨rfl, rfl⟩
  | x :: xs, p, f, hp => by
    obtain ⟨h1, h2⟩ := pre_cons hp
    obtain ⟨a1, a2, a3, a4⟩ := okL_iff.1 h1
    rcases a3 with a3 | a3
    · by_cases c2 : t = (x.day + 1) * 86400 + f
      · have e : lookF f (x :: xs) t = (f, some x.day) := by rw [lookF, if_pos a3, if_pos c2]
        have e2 : lookF f (x :: xs) (t + 1) = (f + 1, none) := by rw [lookF, if_pos a3, if_neg (by omega), if_pos (by omega), look_head h2 (by omega)]
        rw [e, e2]
        exact .inr (.inl ⟨rfl, by simp, rfl⟩)
      · by_cases c3 : t > (x.day + 1) * 86400 + f
        · have e : lookF f (x :: xs) t = lookF (f + 1) xs t := by rw [lookF, if_pos a3, if_neg c2, if_pos c3]
          have e2 : lookF f (x :: xs) (t + 1) = lookF (f + 1) xs (t + 1) := by rw [lookF, if_pos a3, if_neg (by omega), if_pos (by omega)]
          rw [e, e2]
          exact look_next t xs _ _ h2
        · have e : lookF f (x :: xs) t = (f, none) := by rw [lookF, if_pos a3, if_neg c2, if_neg c3]
          have e2 : (lookF f (x :: xs) (t + 1)).1 = f := by
            by_cases c4 : t + 1 = (x.day + 1) * 86400 + f
            · rw [lookF, if_pos a3, if_pos c4]
            · rw [lookF, if_pos a3, if_neg c4, if_neg (by omega)]
          rw [e, e2]
          exact .inl ⟨rfl, rfl⟩
    · by_cases c3 : t ≥ (x.day + 1) * 86400 - 1 + f
      · have e : lookF f (x :: xs) t = lookF (f - 1) xs t := by rw [lookF, if_neg (by omega), if_pos c3]
        have e2 : lookF f (x :: xs) (t + 1) = lookF (f - 1) xs (t + 1) := by rw [lookF, if_neg (by omega), if_pos (by omega)]
        rw [e, e2]
        exact look_next t xs _ _ h2
      · have e : lookF f (x :: xs) t = (f, none) := by rw [lookF, if_neg (by omega), if_neg c3]
        by_cases c4 : t + 1 = (x.day + 1) * 86400 - 1 + f
        · have e2 : lookF f (x :: xs) (t + 1) = (f - 1, none) := by rw [lookF, if_neg (by omega), if_pos (by omega), look_head h2 (by omega)]
          rw [e, e2]
          exact .inr (.inr ⟨rfl, rfl, rfl, x.day + 1, by simp only; omega⟩)
        · have e2 : lookF f (x :: xs) (t + 1) = (f, none) := by rw [lookF, if_neg (by omega), if_neg (by omega)]
          rw [e, e2]
          exact .inl ⟨rfl, rfl⟩
/-! ### A label's time -/
def taiK (ls : List Lp) (l : Lab) : Int := (leadE (secZ l) ls : Int) - (if l.s = 60 then 1 else 0)
def taiZ (f : Int) (ls : List Lp) (l : Lab) : Int := secZ l + (f :: offsF f ls).getD (taiK ls l).toNat 0
def taiB (f : Int) (ls : List Lp) (l : Lab) : Bool := rightZ l && decide (0 ≤ taiK ls l) && labB f ls (taiZ f ls l) && Lab.eqB (labL f ls (taiZ f ls l)) l
/-- A label's time is its own. -/
theorem tai_own {f t : Int} {ls : List Lp} {l : Lab} (hg : goodT f ls = true) (hb : labB f ls t = true) (hl : labL f ls t = l) : taiB f ls l = true ∧ taiZ f ls l = t ∧ taiZ f ls l - secZ l = (lookF f ls t).1 := by
  obtain ⟨g1, g2, g3, g4⟩ := goodT_iff.1 hg
  obtain ⟨r1, r2, r3, r4⟩ := lab_right hg hb
  rw [hl] at r1 r2 r3
  obtain ⟨k1, k2⟩ := look_key t ls none f g4
  rw [← r2] at k1 k2
  have key : 0 ≤ taiK ls l ∧ (f :: offsF f ls).getD (taiK ls l).toNat 0 = (lookF f ls t).1 := by
    unfold taiK
    by_cases h6 : l.s = 60
    · obtain ⟨k3, k4⟩ := k2 (r3.1 h6)
      rw [if_pos h6, show ((leadE (secZ l) ls : Int) - 1).toNat = leadE (secZ l) ls - 1 by omega]
      exact ⟨by omega, k4⟩
    · rw [if_neg h6, show ((leadE (secZ l) ls : Int) - 0).toNat = leadE (secZ l) ls by omega]
      exact ⟨by omega, k1 (by
        by_cases hn : (lookF f ls t).2 = none
        · exact hn
        · exact absurd (r3.2 hn) h6)⟩
  have ez : taiZ f ls l = t := by unfold taiZ; rw [key.2, r2]; omega
  refine ⟨?_, ez, by rw [ez, r2]; omega⟩
  unfold taiB
  rw [ez, r1, hb, hl, decide_eq_true key.1, Lab.eqB_self]; rfl
end Go.Proofs.YtbfiaogmfjadeaaDoor

set_option maxRecDepth 100000
set_option linter.unusedSimpArgs false
set_option linter.unusedVariables false
namespace Go.Proofs.YtbfiaogmfjadeaaDoor
open Go.Rx
def ta1S : Rx.Spec := fun a b => match a, b with
  | [.agg [.int .i64 d, .int .i64 s], .ptr 0 0 0 0], [.cells [.int .i64 n]] => .leaf ⟨.bool (decide (IntKind.i64.wrap (IntKind.i64.wrap (d + 1) * 86400) > n)), [none], []⟩
  | _, _ => .fail
abbrev enG : List (Nat × Rx.Spec) := [(41, endS)]
theorem enG_ok : GammaOK P enG := .cons end_ok (.nil P)
theorem ta1_ok : SpecOK P 44 ta1S := by
  refine specOK_fast enG_ok hm (Λ := loopsOf []) Tryd.func44 (by kernel_rfl) (LoopsOK.nil (by kernel_rfl)) ?_
  intro args bs r h
  unfold ta1S at h
  split at h
  · rename_i d s n
    rw [denLf] at h; cases h
    rw [show (fFn P (specsOf enG) (loopsOf []) Tryd.f44 [.agg [.int .i64 d, .int .i64 s], .ptr 0 0 0 0] [.cells [.int .i64 n]]).denN = Tree.denN (Tree.leaf { v := V.bool (decide (IntKind.i64.wrap (IntKind.i64.wrap (d + 1) * 86400) > n)), upd := [none], new := [] }) from by kernel_rfl]
    rfl
  · simp [den_fail] at h
abbrev ieG : List (Nat × Rx.Spec) := [kpE, (44, ta1S)]
theorem ieG_ok : GammaOK P ieG := .cons keep_ok (.cons ta1_ok (.nil P))
theorem ie_round (n : Nat) (N i s : Int) (rs : List (List V)) : (evRound P (specsOf ieG) (loopsOf []) 19 [0, 1, 7, 8] [4] (loopAt Tryd.f43 0) [.sl 0 0 0 2 n none, .fn (.func 44) [] [.ptr 1 0 0 0], .int .i64 N, .int .i64 i] [.rows lpK rs, .cells [.int .i64 s]]).den = Tree.den (Tree.ite (decide (i < N)) (Tree.ite (decide (0 ≤ i) && decide (i < (↑n : Int))) (Tree.ite (decide (0 + i.toNat < rs.length)) (Tree.ite (decide (IntKind.i64.wrap (IntKind.i64.wrap ((V.toInt ((rs.getD (0 + i.toNat) []).getD 0 V.any)) + 1) * 86400) > s)) (Tree.leaf { e := Ex.ret, vs := [V.int IntKind.i64 i], upd := [none, none], new := [] }) (Tree.leaf { e := Ex.nrm, vs := [V.sl 0 0 0 2 n none, V.fn (Fn.func 44) [] [V.ptr 1 0 0 0], V.int IntKind.i64 N, V.int IntKind.i64 (IntKind.i64.wrap (i + 1))], upd := [none, none], new := [] })) Tree.fail) Tree.fail) (Tree.leaf { e := Ex.exit 0, vs := [V.any], upd := [none, none], new := [] })) := by
  kernel_rfl
theorem ieN_round (N i s : Int) : (evRound P (specsOf ieG) (loopsOf []) 19 [0, 1, 7, 8] [4] (loopAt Tryd.f43 0) [.nils, .fn (.func 44) [] [.ptr 0 0 0 0], .int .i64 N, .int .i64 i] [.cells [.int .i64 s]]).den = Tree.den (Tree.ite (decide (i < N)) Tree.fail (Tree.leaf { e := Ex.exit 0, vs := [V.any], upd := [none], new := [] })) := by
  kernel_rfl
theorem ie_all {n : Nat} {s : Int} {rs : List (List V)} (hn : n = rs.length) (hn2 : n ≤ 1000000) : ∀ (rest : List Lp) (k : Nat) (p : Option Int), (lps rs).drop k = rest → k + rest.length = n → pre p rest = rest.length →
    (loopN P (specsOf ieG) (loopsOf []) 19 [0, 1, 7, 8] [4] (loopAt Tryd.f43 0) (leadE s rest + 1) [.sl 0 0 0 2 n none, .fn (.func 44) [] [.ptr 1 0 0 0], .int .i64 n, .int .i64 k] [.rows lpK rs, .cells [.int .i64 s]]).den =
    some (if leadE s rest = rest.length then ⟨.exit 0, [.any], [none, none], []⟩ else ⟨.ret, [.int .i64 ((k + leadE s rest : Nat) : Int)], [none, none], []⟩) := by
  intro rest
  induction rest with
  | nil =>
    intro k p hr hk _
    have hx := ie_round n n k s rs
    rw [decide_eq_false (show ¬ (k : Int) < (n : Int) by simp at hk; omega)] at hx
    exact loopN_end hx (by show Ex.exit 0 ≠ Ex.nrm; decide)
  | cons x xs ih =>
    intro k p hr hk hp
    simp only [List.length_cons] at hk
    obtain ⟨hx, hd⟩ := drop_get hr
    rw [lps_get] at hx
    obtain ⟨hg, hp'⟩ := pre_cons hp
    obtain ⟨d1, d2, d3, d4⟩ := okL_iff.1 hg
    have e1 : V.toInt ((rs.getD k []).getD 0 V.any) = x.day := by rw [← hx]; rfl
    have st := ie_round n n k s rs
    have w1 : IntKind.i64.wrap (x.day + 1) = x.day + 1 := wrap64_id (by omega) (by omega)
    have w2 : IntKind.i64.wrap ((x.day + 1) * 86400) = (x.day + 1) * 86400 := wrap64_id (by omega) (by omega)
    have w6 : IntKind.i64.wrap ((k : Int) + 1) = ((k + 1 : Nat) : Int) := by rw [wrap64_id (by omega) (by omega)]; omega
    simp only [Nat.zero_add, Int.toNat_natCast, e1, w1, w2, w6] at st
    rw [decide_eq_true (show (k : Int) < (n : Int) by omega), decide_eq_true (show (0 : Int) ≤ k by omega), decide_eq_true (show k < rs.length by omega)] at st
    by_cases hc : (x.day + 1) * 86400 > s
    · have e : leadE s (x :: xs) = 0 := by rw [leadE, if_pos hc]
      rw [e, if_neg (by simp)]
      rw [decide_eq_true hc] at st
      exact loopN_end st (by show Ex.ret ≠ Ex.nrm; decide)
    · have e : leadE s (x :: xs) = leadE s xs + 1 := by rw [leadE, if_neg hc]
      rw [e]
      rw [decide_eq_false hc] at st
      have ih' := ih (k + 1) _ hd (by omega) hp'
      refine loopN_step st rfl (vals' := [.sl 0 0 0 2 n none, .fn (.func 44) [] [.ptr 1 0 0 0], .int .i64 n, .int .i64 ((k + 1 : Nat) : Int)]) (bs' := [.rows lpK rs, .cells [.int .i64 s]]) (by kernel_rfl) (by kernel_rfl) (by kernel_rfl) ih' ?_
      by_cases he : leadE s xs = xs.length
      · rw [if_pos he, if_pos (by simp [he])]; (show (seqAfter _ _ _).den = some _; kernel_rfl)
      · rw [if_neg he, if_neg (by simp [he]), show k + (leadE s xs + 1) = k + 1 + leadE s xs by omega]; (show (seqAfter _ _ _).den = some _; kernel_rfl)
def ieF (vals : List V) (bs : List Blk) : Tree LRes := match vals, bs with
  | [.sl 0 0 0 2 n none, .fn (.func 44) [] [.ptr 1 0 0 0], .int .i64 N, .int .i64 i], [.rows [.int .i64, .int .i64] rs, .cells [.int .i64 s]] =>
    .need (decide (n = rs.length) && decide (N = n) && decide (i = 0) && decide (n ≤ 1000000) && decide (pre none (lps rs) = (lps rs).length)) (.ite (decide (leadE s (lps rs) = n)) (.leaf ⟨.exit 0, [.any], [none, none], []⟩) (.leaf ⟨.ret, [.int .i64 (leadE s (lps rs) : Int)], [none, none], []⟩))
  | [.nils, .fn (.func 44) [] [.ptr 0 0 0 0], .int .i64 N, .int .i64 i], [.cells [.int .i64 s]] =>
    .need (decide (N = 0) && decide (i = 0)) (.leaf ⟨.exit 0, [.any], [none], []⟩)
  | _, _ => .fail
def ieL : LSpec := ⟨19, [0, 1, 7, 8], [4], ieF⟩
theorem ie_loop : LoopOK P (loopAt Tryd.f43 0) ieL := by
  refine loop_ok ieG_ok Go.Proofs.YtbfiaogmfjadeaaDoor.hm (Λ := loopsOf []) (LoopsOK.nil (by kernel_rfl)) _ ?_
  intro vals bs r h
  simp only [ieL, ieF] at h
  split at h
  · rename_i n N i rs s
    rw [den_need, denI, denLf, denLf] at h
    simp only [Bool.and_eq_true, decide_eq_true_eq] at h
    obtain ⟨⟨⟨⟨⟨h1, rfl⟩, rfl⟩, h3⟩, h4⟩, h⟩ := h
    have := ie_all (s := s) h1 h3 (lps rs) 0 none rfl (by rw [lps_len]; omega) h4
    refine ⟨leadE s (lps rs) + 1, this.trans ?_⟩
    rw [lps_len, ← h1, Nat.zero_add]
    exact (apply_ite some _ _ _).trans h
  · rename_i N i s
    rw [den_need, denLf] at h
    simp only [Bool.and_eq_true, decide_eq_true_eq] at h
    obtain ⟨⟨rfl, rfl⟩, h⟩ := h
    cases h
    exact ⟨1, loopN_end (ieN_round 0 0 s) (by show Ex.exit 0 ≠ Ex.nrm; decide)⟩
  · simp [den_fail] at h
def ieZ (s : Int) (ls : List Lp) : Int := if leadE s ls = ls.length then -1 else (leadE s ls : Int)
def ieS : Rx.Spec := fun a b => match a, b with
  | [.sl 0 0 0 2 n none, .fn (.func 44) [] [.ptr 1 0 0 0]], [.rows [.int .i64, .int .i64] rs, .cells [.int .i64 s]] => .need (decide (n = rs.length) && decide (n ≤ 1000000) && decide (pre none (lps rs) = (lps rs).length)) (.leaf ⟨.int .i64 (ieZ s (lps rs)), [none, none], []⟩)
  | [.nils, .fn (.func 44) [] [.ptr 0 0 0 0]], [.cells [.int .i64 s]] => .leaf ⟨.int .i64 (-1), [none], []⟩
  | _, _ => .fail
theorem ie_ok : SpecOK P 43 ieS := by
  refine specOK_fast ieG_ok hm (Λ := loopsOf [(2, ieL)]) Tryd.func43 (by kernel_rfl) (LoopsOK.one (by kernel_rfl) ie_loop) ?_
  intro args bs r h
  unfold ieS at h
  split at h
  · rename_i n rs s
    rw [den_need, denLf] at h
    simp only [Bool.and_eq_true, decide_eq_true_eq] at h
    obtain ⟨⟨⟨h1, h2⟩, h3⟩, h⟩ := h
    cases h
    rw [show (fFn P (specsOf ieG) (loopsOf [(2, ieL)]) Tryd.f43 [.sl 0 0 0 2 n none, .fn (.func 44) [] [.ptr 1 0 0 0]] [.rows lpK rs, .cells [.int .i64 s]]).denN = Tree.denN (Tree.ite (decide (n = rs.length) && decide ((↑n : Int) = (↑n : Int)) && true && decide (n ≤ 1000000) && decide (pre none (lps rs) = (lps rs).length)) (Tree.ite (decide (leadE s (lps rs) = n)) (Tree.leaf { v := V.int IntKind.i64 (-1), upd := [none, none], new := [] }) (Tree.leaf { v := V.int IntKind.i64 (↑(leadE s (lps rs)) : Int), upd := [none, none], new := [] })) Tree.fail) from by kernel_rfl]
    simp only [denN_ite, denN_leaf, denN_fail, decide_eq_true h1, decide_eq_true h2, decide_eq_true h3, decide_true]
    unfold ieZ
    rw [lps_len, ← h1]
    by_cases he : leadE s (lps rs) = n
    · rw [if_pos he, decide_eq_true he]; rfl
    · rw [if_neg he, decide_eq_false he]; rfl
  · rename_i s
    rw [denLf] at h; cases h
    rw [show (fFn P (specsOf ieG) (loopsOf [(2, ieL)]) Tryd.f43 [.nils, .fn (.func 44) [] [.ptr 0 0 0 0]] [.cells [.int .i64 s]]).denN = Tree.denN (Tree.leaf { v := V.int IntKind.i64 (-1), upd := [none], new := [] }) from by kernel_rfl]
    rfl
  · simp [den_fail] at h
abbrev taG : List (Nat × Rx.Spec) := [kpE, (25, secS), (43, ieS), (16, lbS)]
theorem taG_ok : GammaOK P taG := .cons keep_ok (.cons sec_ok (.cons ie_ok (.cons lb_ok (.nil P))))
def taS : Rx.Spec := fun a b => match a with
  | [.ptr 0 0 0 0, v] => match Lab.of v with
    | some l => onT b fun f ls u => .ite (taiB f ls l) (.leaf ⟨.tup [.int .i64 (taiZ f ls l), .bool true], u, []⟩) (.leaf ⟨.tup [.int .i64 0, .bool false], u, []⟩)
    | none => .fail
  | _ => .fail
theorem offs_bd : ∀ (ls : List Lp) (p : Option Int) (f : Int) (i : Nat), pre p ls = ls.length → (f - ls.length ≤ (f :: offsF f ls).getD i 0 ∧ (f :: offsF f ls).getD i 0 ≤ f + ls.length) ∨ (f :: offsF f ls).getD i 0 = 0
  | ls, p, f, 0, _ => .inl ⟨by simp; omega, by simp; omega⟩
  | [], p, f, i + 1, _ => .inr (by simp [offsF])
  | x :: xs, p, f, i + 1, hp => by
    obtain ⟨h1, h2⟩ := pre_cons hp
    obtain ⟨a1, a2, a3, a4⟩ := okL_iff.1 h1
    have := offs_bd xs _ (f + x.sign) i h2
    rw [offsF, List.getD_cons_succ]
    simp only [List.length_cons]
    omega
theorem tai_ok : SpecOK P 23 taS := by
  refine specOK_fast taG_ok hm (Λ := loopsOf []) Tryd.func23 (by kernel_rfl) (LoopsOK.nil (by kernel_rfl)) ?_
  intro args bs r h
  unfold taS at h
  split at h
  · split at h
    · rename_i v _ l hl
      rw [Lab.of_eq hl]
      rcases onT_den h with ⟨f, rs, rfl, hg, h1, hk⟩ | ⟨f, rfl, hg, hk⟩
      · rw [denI, denLf, denLf] at hk
        obtain ⟨g1, g2, g3, g4⟩ := goodT_iff.1 hg
        rw [lps_len] at g3
        rw [show (fFn P (specsOf taG) (loopsOf []) Tryd.f23 [.ptr 0 0 0 0, l.v] (tabA f rs)).denN = Tree.denN (Tree.ite (rightZ l) (Tree.ite (decide (rs.length = rs.length) && decide (rs.length ≤ 1000000) && decide (pre none (lps rs) = (lps rs).length)) (Tree.ite (decide (ieZ (secZ l) (lps rs) < 0)) (Tree.ite (l.6 == 60) (Tree.ite (decide (IntKind.i64.wrap ((↑rs.length : Int) - 1) < 0)) (Tree.leaf { v := V.tup [V.int IntKind.i64 0, V.fls], upd := [none, none, none, none], new := [] }) (Tree.ite (decide (0 ≤ IntKind.i64.wrap ((↑rs.length : Int) - 1)) && decide (IntKind.i64.wrap ((↑rs.length : Int) - 1) < (↑(rs.length + 1) : Int))) (Tree.ite (decide (0 + (IntKind.i64.wrap ((↑rs.length : Int) - 1)).toNat + 1 ≤ (f :: offsF f (lps rs)).length)) (Tree.ite (okTA rs.length (rs.length + 1) rs.length f rs (offsF f (lps rs)) (stF f (lps rs))) (Tree.ite (decide (IntKind.i64.wrap (secZ l + (f :: offsF f (lps rs)).getD (0 + (IntKind.i64.wrap ((↑rs.length : Int) - 1)).toNat + 0) 0) ≤ 9000000000000000000)) (Tree.ite (labB f (lps rs) (IntKind.i64.wrap (secZ l + (f :: offsF f (lps rs)).getD (0 + (IntKind.i64.wrap ((↑rs.length : Int) - 1)).toNat + 0) 0))) (Tree.ite (!(Lab.eqB (labL f (lps rs) (IntKind.i64.wrap (secZ l + (f :: offsF f (lps rs)).getD (0 + (IntKind.i64.wrap ((↑rs.length : Int) - 1)).toNat + 0) 0))) l)) (Tree.leaf { v := V.tup [V.int IntKind.i64 0, V.fls], upd := [none, none, none, none], new := [] }) (Tree.leaf { v := V.tup [V.int IntKind.i64 (IntKind.i64.wrap (secZ l + (f :: offsF f (lps rs)).getD (0 + (IntKind.i64.wrap ((↑rs.length : Int) - 1)).toNat + 0) 0)), V.tru], upd := [none, none, none, none], new := [] })) (Tree.leaf { v := V.tup [V.int IntKind.i64 0, V.fls], upd := [none, none, none, none], new := [] })) Tree.fail) Tree.fail) Tree.fail) Tree.fail)) (Tree.ite (true && decide ((↑rs.length : Int) < (↑(rs.length + 1) : Int))) (Tree.ite (decide (0 + (↑rs.length : Int).toNat + 1 ≤ (f :: offsF f (lps rs)).length)) (Tree.ite (okTA rs.length (rs.length + 1) rs.length f rs (offsF f (lps rs)) (stF f (lps rs))) (Tree.ite (decide (IntKind.i64.wrap (secZ l + (f :: offsF f (lps rs)).getD (0 + (↑rs.length : Int).toNat + 0) 0) ≤ 9000000000000000000)) (Tree.ite (labB f (lps rs) (IntKind.i64.wrap (secZ l + (f :: offsF f (lps rs)).getD (0 + (↑rs.length : Int).toNat + 0) 0))) (Tree.ite (!(Lab.eqB (labL f (lps rs) (IntKind.i64.wrap (secZ l + (f :: offsF f (lps rs)).getD (0 + (↑rs.length : Int).toNat + 0) 0))) l)) (Tree.leaf { v := V.tup [V.int IntKind.i64 0, V.fls], upd := [none, none, none, none], new := [] }) (Tree.leaf { v := V.tup [V.int IntKind.i64 (IntKind.i64.wrap (secZ l + (f :: offsF f (lps rs)).getD (0 + (↑rs.length : Int).toNat + 0) 0)), V.tru], upd := [none, none, none, none], new := [] })) (Tree.leaf { v := V.tup [V.int IntKind.i64 0, V.fls], upd := [none, none, none, none], new := [] })) Tree.fail) Tree.fail) Tree.fail) Tree.fail)) (Tree.ite (l.6 == 60) (Tree.ite (decide (IntKind.i64.wrap (ieZ (secZ l) (lps rs) - 1) < 0)) (Tree.leaf { v := V.tup [V.int IntKind.i64 0, V.fls], upd := [none, none, none, none], new := [] }) (Tree.ite (decide (0 ≤ IntKind.i64.wrap (ieZ (secZ l) (lps rs) - 1)) && decide (IntKind.i64.wrap (ieZ (secZ l) (lps rs) - 1) < (↑(rs.length + 1) : Int))) (Tree.ite (decide (0 + (IntKind.i64.wrap (ieZ (secZ l) (lps rs) - 1)).toNat + 1 ≤ (f :: offsF f (lps rs)).length)) (Tree.ite (okTA rs.length (rs.length + 1) rs.length f rs (offsF f (lps rs)) (stF f (lps rs))) (Tree.ite (decide (IntKind.i64.wrap (secZ l + (f :: offsF f (lps rs)).getD (0 + (IntKind.i64.wrap (ieZ (secZ l) (lps rs) - 1)).toNat + 0) 0) ≤ 9000000000000000000)) (Tree.ite (labB f (lps rs) (IntKind.i64.wrap (secZ l + (f :: offsF f (lps rs)).getD (0 + (IntKind.i64.wrap (ieZ (secZ l) (lps rs) - 1)).toNat + 0) 0))) (Tree.ite (!(Lab.eqB (labL f (lps rs) (IntKind.i64.wrap (secZ l + (f :: offsF f (lps rs)).getD (0 + (IntKind.i64.wrap (ieZ (secZ l) (lps rs) - 1)).toNat + 0) 0))) l)) (Tree.leaf { v := V.tup [V.int IntKind.i64 0, V.fls], upd := [none, none, none, none], new := [] }) (Tree.leaf { v := V.tup [V.int IntKind.i64 (IntKind.i64.wrap (secZ l + (f :: offsF f (lps rs)).getD (0 + (IntKind.i64.wrap (ieZ (secZ l) (lps rs) - 1)).toNat + 0) 0)), V.tru], upd := [none, none, none, none], new := [] })) (Tree.leaf { v := V.tup [V.int IntKind.i64 0, V.fls], upd := [none, none, none, none], new := [] })) Tree.fail) Tree.fail) Tree.fail) Tree.fail)) (Tree.ite (decide (ieZ (secZ l) (lps rs) < 0)) (Tree.leaf { v := V.tup [V.int IntKind.i64 0, V.fls], upd := [none, none, none, none], new := [] }) (Tree.ite (decide (0 ≤ ieZ (secZ l) (lps rs)) && decide (ieZ (secZ l) (lps rs) < (↑(rs.length + 1) : Int))) (Tree.ite (decide (0 + (ieZ (secZ l) (lps rs)).toNat + 1 ≤ (f :: offsF f (lps rs)).length)) (Tree.ite (okTA rs.length (rs.length + 1) rs.length f rs (offsF f (lps rs)) (stF f (lps rs))) (Tree.ite (decide (IntKind.i64.wrap (secZ l + (f :: offsF f (lps rs)).getD (0 + (ieZ (secZ l) (lps rs)).toNat + 0) 0) ≤ 9000000000000000000)) (Tree.ite (labB f (lps rs) (IntKind.i64.wrap (secZ l + (f :: offsF f (lps rs)).getD (0 + (ieZ (secZ l) (lps rs)).toNat + 0) 0))) (Tree.ite (!(Lab.eqB (labL f (lps rs) (IntKind.i64.wrap (secZ l + (f :: offsF f (lps rs)).getD (0 + (ieZ (secZ l) (lps rs)).toNat + 0) 0))) l)) (Tree.leaf { v := V.tup [V.int IntKind.i64 0, V.fls], upd := [none, none, none, none], new := [] }) (Tree.leaf { v := V.tup [V.int IntKind.i64 (IntKind.i64.wrap (secZ l + (f :: offsF f (lps rs)).getD (0 + (ieZ (secZ l) (lps rs)).toNat + 0) 0)), V.tru], upd := [none, none, none, none], new := [] })) (Tree.leaf { v := V.tup [V.int IntKind.i64 0, V.fls], upd := [none, none, none, none], new := [] })) Tree.fail) Tree.fail) Tree.fail) Tree.fail)))) Tree.fail) (Tree.ite (decide (rs.length = rs.length) && decide (rs.length ≤ 1000000) && decide (pre none (lps rs) = (lps rs).length)) (Tree.ite (decide (ieZ 0 (lps rs) < 0)) (Tree.ite (l.6 == 60) (Tree.leaf { v := V.tup [V.int IntKind.i64 0, V.fls], upd := [none, none, none, none], new := [] }) (Tree.leaf { v := V.tup [V.int IntKind.i64 0, V.fls], upd := [none, none, none, none], new := [] })) (Tree.ite (l.6 == 60) (Tree.leaf { v := V.tup [V.int IntKind.i64 0, V.fls], upd := [none, none, none, none], new := [] }) (Tree.leaf { v := V.tup [V.int IntKind.i64 0, V.fls], upd := [none, none, none, none], new := [] }))) Tree.fail)) from by kernel_rfl]
        simp only [denN_ite, denN_leaf, denN_fail, okTA_of hg h1, decide_eq_true (show rs.length ≤ 1000000 by omega), decide_eq_true g4, decide_true]
        cases hr : rightZ l with
        | false =>
          have e : taiB f (lps rs) l = false := by unfold taiB; rw [hr]; rfl
          rw [e, if_neg (by decide)] at hk; cases hk
          generalize decide (ieZ 0 (lps rs) < 0) = x1
          generalize (l.6 == 60) = x2
          cases x1 <;> cases x2 <;> rfl
        | true =>
          obtain ⟨q0, q1, q2, q3, q4, q5, q6, q7⟩ := right_mem hr
          obtain ⟨m1, m2, m3, m4, m5, m6, m7, m8⟩ := day_mem q0
          have hs : 0 ≤ secZ l ∧ secZ l ≤ 300000000000 := by unfold secZ; omega
          have hle := leadE_le (secZ l) (lps rs)
          rw [lps_len] at hle
          have ho : (f :: offsF f (lps rs)).length = rs.length + 1 := by simp [offs_len, lps_len]
          rw [ho]
          have fin : ∀ (k : Nat), (k : Int) = taiK (lps rs) l → k ≤ rs.length →
              IntKind.i64.wrap (secZ l + (f :: offsF f (lps rs)).getD k 0) = taiZ f (lps rs) l ∧ taiZ f (lps rs) l ≤ 9000000000000000000 := by
            intro k hk hk2
            have hb := offs_bd (lps rs) none f k g4
            rw [lps_len] at hb
            have e : taiZ f (lps rs) l = secZ l + (f :: offsF f (lps rs)).getD k 0 := by unfold taiZ; rw [← hk]; rfl
            rw [e, wrap64_id (by omega) (by omega)]
            exact ⟨rfl, by omega⟩
          have done : 0 ≤ taiK (lps rs) l → (if labB f (lps rs) (taiZ f (lps rs) l) = true then if (!Lab.eqB (labL f (lps rs) (taiZ f (lps rs) l)) l) = true then some (Res.nrm { v := V.tup [V.int IntKind.i64 0, V.fls], upd := [none, none, none, none], new := [] }) else some (Res.nrm { v := V.tup [V.int IntKind.i64 (taiZ f (lps rs) l), V.tru], upd := [none, none, none, none], new := [] }) else some (Res.nrm { v := V.tup [V.int IntKind.i64 0, V.fls], upd := [none, none, none, none], new := [] })) = some r.nrm := by
            intro h0
            have e : taiB f (lps rs) l = (labB f (lps rs) (taiZ f (lps rs) l) && Lab.eqB (labL f (lps rs) (taiZ f (lps rs) l)) l) := by unfold taiB; rw [hr, decide_eq_true h0]; rfl
            rw [e] at hk
            cases hq1 : labB f (lps rs) (taiZ f (lps rs) l) <;> cases hq2 : Lab.eqB (labL f (lps rs) (taiZ f (lps rs) l)) l <;> rw [hq1, hq2] at hk <;> cases hk <;> rfl
          have refuse : ¬ 0 ≤ taiK (lps rs) l → some (Res.nrm { v := V.tup [V.int IntKind.i64 0, V.fls], upd := [none, none, none, none], new := [] }) = some r.nrm := by
            intro h0
            have e : taiB f (lps rs) l = false := by unfold taiB; rw [hr, decide_eq_false h0]; rfl
            rw [e, if_neg (by decide)] at hk; cases hk; rfl
          have h60 : (l.6 == 60) = decide (l.s = 60) := by rw [Bool.eq_iff_iff, beq_iff_eq, decide_eq_true_eq]
          rw [h60]
          by_cases he : leadE (secZ l) (lps rs) = (lps rs).length
          · have ez : ieZ (secZ l) (lps rs) = -1 := by unfold ieZ; rw [if_pos he]
            rw [lps_len] at he
            rw [ez, decide_eq_true (show (-1 : Int) < 0 by omega)]
            by_cases hc : l.s = 60
            · have ek : taiK (lps rs) l = ((rs.length - 1 : Nat) : Int) := by unfold taiK; rw [if_pos hc, he]; omega
              have w : IntKind.i64.wrap ((rs.length : Int) - 1) = ((rs.length - 1 : Nat) : Int) := by rw [wrap64_id (by omega) (by omega)]; omega
              obtain ⟨f1, f2⟩ := fin (rs.length - 1) ek.symm (by omega)
              simp only [w, Nat.zero_add, Int.toNat_natCast, Nat.add_zero, f1, decide_eq_true hc, decide_eq_true f2]
              rw [decide_eq_false (show ¬ ((rs.length - 1 : Nat) : Int) < 0 by omega), decide_eq_true (show (0 : Int) ≤ ((rs.length - 1 : Nat) : Int) by omega), decide_eq_true (show ((rs.length - 1 : Nat) : Int) < ((rs.length + 1 : Nat) : Int) by omega), decide_eq_true (show rs.length - 1 + 1 ≤ rs.length + 1 by omega)]
              exact done (by omega)
            · have ek : taiK (lps rs) l = (rs.length : Int) := by unfold taiK; rw [if_neg hc, he]; omega
              obtain ⟨f1, f2⟩ := fin rs.length ek.symm (by omega)
              simp only [Nat.zero_add, Int.toNat_natCast, Nat.add_zero, f1, decide_eq_false hc, decide_eq_true f2]
              rw [decide_eq_true (show (rs.length : Int) < ((rs.length + 1 : Nat) : Int) by omega), decide_eq_true (show rs.length + 1 ≤ rs.length + 1 by omega)]
              exact done (by omega)
          · have ez : ieZ (secZ l) (lps rs) = (leadE (secZ l) (lps rs) : Int) := by unfold ieZ; rw [if_neg he]
            rw [lps_len] at he
            rw [ez, decide_eq_false (show ¬ (leadE (secZ l) (lps rs) : Int) < 0 by omega)]
            by_cases hc : l.s = 60
            · by_cases hz : leadE (secZ l) (lps rs) = 0
              · have ek : ¬ 0 ≤ taiK (lps rs) l := by unfold taiK; rw [if_pos hc, hz]; omega
                rw [decide_eq_true hc, hz, show IntKind.i64.wrap (((0 : Nat) : Int) - 1) = -1 from rfl, decide_eq_true (show (-1 : Int) < 0 by omega)]
                exact refuse ek
              · have ek : taiK (lps rs) l = ((leadE (secZ l) (lps rs) - 1 : Nat) : Int) := by unfold taiK; rw [if_pos hc]; omega
                have w : IntKind.i64.wrap ((leadE (secZ l) (lps rs) : Int) - 1) = ((leadE (secZ l) (lps rs) - 1 : Nat) : Int) := by rw [wrap64_id (by omega) (by omega)]; omega
                obtain ⟨f1, f2⟩ := fin (leadE (secZ l) (lps rs) - 1) ek.symm (by omega)
                simp only [w, Nat.zero_add, Int.toNat_natCast, Nat.add_zero, f1, decide_eq_true hc, decide_eq_true f2]
                rw [decide_eq_false (show ¬ ((leadE (secZ l) (lps rs) - 1 : Nat) : Int) < 0 by omega), decide_eq_true (show (0 : Int) ≤ ((leadE (secZ l) (lps rs) - 1 : Nat) : Int) by omega), decide_eq_true (show ((leadE (secZ l) (lps rs) - 1 : Nat) : Int) < ((rs.length + 1 : Nat) : Int) by omega), decide_eq_true (show leadE (secZ l) (lps rs) - 1 + 1 ≤ rs.length + 1 by omega)]
                exact done (by omega)
            · have ek : taiK (lps rs) l = (leadE (secZ l) (lps rs) : Int) := by unfold taiK; rw [if_neg hc]; omega
              obtain ⟨f1, f2⟩ := fin (leadE (secZ l) (lps rs)) ek.symm (by omega)
              simp only [Nat.zero_add, Int.toNat_natCast, Nat.add_zero, f1, decide_eq_false hc, decide_eq_true f2]
              rw [decide_eq_true (show (0 : Int) ≤ (leadE (secZ l) (lps rs) : Int) by omega), decide_eq_true (show (leadE (secZ l) (lps rs) : Int) < ((rs.length + 1 : Nat) : Int) by omega), decide_eq_true (show leadE (secZ l) (lps rs) + 1 ≤ rs.length + 1 by omega)]
              exact done (by omega)
      · rw [denI, denLf, denLf] at hk
        obtain ⟨g1, g2, g3, g4⟩ := goodT_iff.1 hg
        rw [show (fFn P (specsOf taG) (loopsOf []) Tryd.f23 [.ptr 0 0 0 0, l.v] (tabN f)).denN = Tree.denN (Tree.ite (rightZ l) (Tree.ite (l.6 == 60) (Tree.leaf { v := V.tup [V.int IntKind.i64 0, V.fls], upd := [none, none], new := [] }) (Tree.ite (goodT f []) (Tree.ite (decide (IntKind.i64.wrap (secZ l + [f].getD 0 0) ≤ 9000000000000000000)) (Tree.ite (labB f [] (IntKind.i64.wrap (secZ l + [f].getD 0 0))) (Tree.ite (!(dYear ((IntKind.i64.wrap (secZ l + [f].getD 0 0) - f) / 86400) == l.1 && (dMonth ((IntKind.i64.wrap (secZ l + [f].getD 0 0) - f) / 86400) == l.2 && (dDay ((IntKind.i64.wrap (secZ l + [f].getD 0 0) - f) / 86400) == l.3 && ((IntKind.i64.wrap (secZ l + [f].getD 0 0) - f) % 86400 / 3600 == l.4 && ((IntKind.i64.wrap (secZ l + [f].getD 0 0) - f) % 3600 / 60 == l.5 && ((IntKind.i64.wrap (secZ l + [f].getD 0 0) - f) % 60 == l.6 && true))))))) (Tree.leaf { v := V.tup [V.int IntKind.i64 0, V.fls], upd := [none, none], new := [] }) (Tree.leaf { v := V.tup [V.int IntKind.i64 (IntKind.i64.wrap (secZ l + [f].getD 0 0)), V.tru], upd := [none, none], new := [] })) (Tree.leaf { v := V.tup [V.int IntKind.i64 0, V.fls], upd := [none, none], new := [] })) Tree.fail) Tree.fail)) (Tree.ite (l.6 == 60) (Tree.leaf { v := V.tup [V.int IntKind.i64 0, V.fls], upd := [none, none], new := [] }) (Tree.leaf { v := V.tup [V.int IntKind.i64 0, V.fls], upd := [none, none], new := [] }))) from by kernel_rfl]
        simp only [denN_ite, denN_leaf, denN_fail, hg]
        have h60 : (l.6 == 60) = decide (l.s = 60) := by rw [Bool.eq_iff_iff, beq_iff_eq, decide_eq_true_eq]
        rw [h60]
        cases hr : rightZ l with
        | false =>
          have e : taiB f [] l = false := by unfold taiB; rw [hr]; rfl
          rw [e, if_neg (by decide)] at hk; cases hk
          cases decide (l.s = 60) <;> rfl
        | true =>
          obtain ⟨q0, q1, q2, q3, q4, q5, q6, q7⟩ := right_mem hr
          obtain ⟨m1, m2, m3, m4, m5, m6, m7, m8⟩ := day_mem q0
          have hs : 0 ≤ secZ l ∧ secZ l ≤ 300000000000 := by unfold secZ; omega
          by_cases hc : l.s = 60
          · have ek : ¬ 0 ≤ taiK [] l := by unfold taiK; rw [if_pos hc]; simp [leadE]
            have e : taiB f [] l = false := by unfold taiB; rw [hr, decide_eq_false ek]; rfl
            rw [e, if_neg (by decide)] at hk; cases hk
            rw [decide_eq_true hc]; rfl
          · have ek : 0 ≤ taiK [] l := by unfold taiK; rw [if_neg hc]; simp [leadE]
            have ez : taiZ f [] l = secZ l + f := by unfold taiZ taiK; rw [if_neg hc]; rfl
            have w : IntKind.i64.wrap (secZ l + [f].getD 0 0) = taiZ f [] l := by rw [ez]; exact wrap64_id (by simp; omega) (by simp; omega)
            rw [w, decide_eq_false hc, decide_eq_true (show taiZ f [] l ≤ 9000000000000000000 by rw [ez]; omega)]
            have e : taiB f [] l = (labB f [] (taiZ f [] l) && Lab.eqB (labL f [] (taiZ f [] l)) l) := by unfold taiB; rw [hr, decide_eq_true ek]; rfl
            rw [e] at hk
            have eE : ∀ T : Int, (dYear ((T - f) / 86400) == l.1 && (dMonth ((T - f) / 86400) == l.2 && (dDay ((T - f) / 86400) == l.3 && ((T - f) % 86400 / 3600 == l.4 && ((T - f) % 3600 / 60 == l.5 && ((T - f) % 60 == l.6 && true)))))) = Lab.eqB (labL f [] T) l := fun T => rfl
            rw [eE]
            cases hq1 : labB f [] (taiZ f [] l) <;> cases hq2 : Lab.eqB (labL f [] (taiZ f [] l)) l <;> rw [hq1, hq2] at hk <;> cases hk <;> rfl
    · simp [den_fail] at h
  · simp [den_fail] at h
end Go.Proofs.YtbfiaogmfjadeaaDoor

set_option maxRecDepth 100000
set_option linter.unusedSimpArgs false
set_option linter.unusedVariables false
namespace Go.Proofs.YtbfiaogmfjadeaaDoor
open Go.Rx
abbrev rtlG : List (Nat × Rx.Spec) := [(17, rlbS)]
theorem rtlG_ok : GammaOK P rtlG := .cons rlb_ok (.nil P)
theorem rt_round (n : Nat) (f s o : Int) (l : Lab) (rs : List (List V)) : (evRound P (specsOf rtlG) (loopsOf []) 45 [2, 3, 6, 8] [4, 5] (loopAt Tryd.f24 0) [.ptr 0 0 0 0, .ptr 1 0 0 0, .int .i64 s, .int .i64 o] [.cells [.int .i64 f, .sl 2 0 0 2 n none], .cells l.vs, .rows lpK rs]).den = Tree.den (Tree.ite (decide (o ≤ IntKind.i64.wrap (f + 64))) (Tree.ite (decide (n = rs.length) && goodT f (lps rs) && decide (IntKind.i64.wrap (s + o) ≤ 9000000000000000000)) (Tree.ite (labB f (lps rs) (IntKind.i64.wrap (s + o))) (Tree.ite (Lab.eqB (labL f (lps rs) (IntKind.i64.wrap (s + o))) l) (Tree.leaf { e := Ex.ret, vs := [V.int IntKind.i64 (IntKind.i64.wrap (s + o)), V.tru], upd := [none, none, none], new := [] }) (Tree.leaf { e := Ex.nrm, vs := [V.ptr 0 0 0 0, V.ptr 1 0 0 0, V.int IntKind.i64 s, V.int IntKind.i64 (IntKind.i64.wrap (o + 1))], upd := [none, none, none], new := [] })) (Tree.leaf { e := Ex.nrm, vs := [V.ptr 0 0 0 0, V.ptr 1 0 0 0, V.int IntKind.i64 s, V.int IntKind.i64 (IntKind.i64.wrap (o + 1))], upd := [none, none, none], new := [] })) Tree.fail) (Tree.leaf { e := Ex.exit 0, vs := [V.any, V.any], upd := [none, none, none], new := [] })) := by
  kernel_rfl
def fnd (f : Int) (ls : List Lp) (l : Lab) (s : Int) : Nat → Int → Option Int
  | 0, _ => none
  | k + 1, o => if (labB f ls (s + o) && Lab.eqB (labL f ls (s + o)) l) = true then some o else fnd f ls l s k (o + 1)
theorem fnd_some {f s : Int} {ls : List Lp} {l : Lab} : ∀ (k : Nat) (o o' : Int), fnd f ls l s k o = some o' → o ≤ o' ∧ o' < o + k ∧ labB f ls (s + o') = true ∧ labL f ls (s + o') = l
  | 0, o, o', h => by simp [fnd] at h
  | k + 1, o, o', h => by
    simp only [fnd] at h
    split at h
    · rename_i hc
      simp only [Option.some.injEq] at h; subst h
      simp only [Bool.and_eq_true] at hc
      exact ⟨by omega, by omega, hc.1, Lab.eqB_iff.1 hc.2⟩
    · have := fnd_some k (o + 1) o' h
      exact ⟨by omega, by omega, this.2.2⟩
theorem fnd_none {f s : Int} {ls : List Lp} {l : Lab} : ∀ (k : Nat) (o : Int), fnd f ls l s k o = none → ∀ o', o ≤ o' → o' < o + k → ¬ (labB f ls (s + o') = true ∧ labL f ls (s + o') = l)
  | 0, o, _, o', h1, h2 => by omega
  | k + 1, o, h, o', h1, h2 => by
    simp only [fnd] at h
    split at h
    · cases h
    · rename_i hc
      by_cases he : o' = o
      · subst he
        rintro ⟨q1, q2⟩
        apply hc
        rw [q1, q2, Lab.eqB_self]; rfl
      · exact fnd_none k (o + 1) h o' (by omega) (by omega)
theorem fnd_tai {f : Int} {ls : List Lp} {l : Lab} (hg : goodT f ls = true) : fnd f ls l (secZ l) 129 (f - 64) = if taiB f ls l = true then some (taiZ f ls l - secZ l) else none := by
  obtain ⟨g1, g2, g3, g4⟩ := goodT_iff.1 hg
  cases h : fnd f ls l (secZ l) 129 (f - 64) with
  | some o =>
    obtain ⟨q1, q2, q3, q4⟩ := fnd_some _ _ _ h
    obtain ⟨t1, t2, t3⟩ := tai_own hg q3 q4
    rw [if_pos t1, t2]
    congr 1; omega
  | none =>
    have hn := fnd_none _ _ h
    rw [if_neg]
    intro hb
    have hb' := hb
    unfold taiB at hb
    simp only [Bool.and_eq_true] at hb
    obtain ⟨⟨⟨h1, h2⟩, h3⟩, h4⟩ := hb
    have h4 := Lab.eqB_iff.1 h4
    obtain ⟨t1, t2, t3⟩ := tai_own hg h3 h4
    have hbd := look_bd (taiZ f ls l) ls f
    refine hn (taiZ f ls l - secZ l) (by omega) (by omega) ?_
    rw [show secZ l + (taiZ f ls l - secZ l) = taiZ f ls l by omega]
    exact ⟨h3, h4⟩
def rtR (s : Int) : Option Int → LRes
  | some o => ⟨.ret, [.int .i64 (s + o), .tru], [none, none, none], []⟩
  | none => ⟨.exit 0, [.any, .any], [none, none, none], []⟩
theorem rt_all {n : Nat} {f s : Int} {l : Lab} {rs : List (List V)} (hn : n = rs.length) (hg : goodT f (lps rs) = true) (hs : 0 ≤ s ∧ s ≤ 300000000000) : ∀ (j : Nat) (o : Int), o + j = f + 65 → f - 64 ≤ o →
    ∃ m, (loopN P (specsOf rtlG) (loopsOf []) 45 [2, 3, 6, 8] [4, 5] (loopAt Tryd.f24 0) m [.ptr 0 0 0 0, .ptr 1 0 0 0, .int .i64 s, .int .i64 o] [.cells [.int .i64 f, .sl 2 0 0 2 n none], .cells l.vs, .rows lpK rs]).den = some (rtR s (fnd f (lps rs) l s j o)) := by
  obtain ⟨g1, g2, g3, g4⟩ := goodT_iff.1 hg
  intro j
  induction j with
  | zero =>
    intro o ho hf
    have st := rt_round n f s o l rs
    rw [wrap64_id (n := f + 64) (by omega) (by omega), decide_eq_false (show ¬ o ≤ f + 64 by omega)] at st
    exact ⟨1, loopN_end st (by show Ex.exit 0 ≠ Ex.nrm; decide)⟩
  | succ j ih =>
    intro o ho hf
    have st := rt_round n f s o l rs
    rw [wrap64_id (n := f + 64) (by omega) (by omega), wrap64_id (n := s + o) (by omega) (by omega), wrap64_id (n := o + 1) (by omega) (by omega), decide_eq_true (show o ≤ f + 64 by omega), decide_eq_true hn, hg, decide_eq_true (show s + o ≤ 9000000000000000000 by omega)] at st
    obtain ⟨m, ih'⟩ := ih (o + 1) (by omega) (by omega)
    have go : (labB f (lps rs) (s + o) && Lab.eqB (labL f (lps rs) (s + o)) l) = false → (evRound P (specsOf rtlG) (loopsOf []) 45 [2, 3, 6, 8] [4, 5] (loopAt Tryd.f24 0) [.ptr 0 0 0 0, .ptr 1 0 0 0, .int .i64 s, .int .i64 o] [.cells [.int .i64 f, .sl 2 0 0 2 n none], .cells l.vs, .rows lpK rs]).den = some ⟨.nrm, [.ptr 0 0 0 0, .ptr 1 0 0 0, .int .i64 s, .int .i64 (o + 1)], [none, none, none], []⟩ := by
      intro hc
      rw [st]
      cases h1 : labB f (lps rs) (s + o) <;> cases h2 : Lab.eqB (labL f (lps rs) (s + o)) l <;> rw [h1, h2] at hc <;> first | rfl | cases hc
    cases hc : (labB f (lps rs) (s + o) && Lab.eqB (labL f (lps rs) (s + o)) l) with
    | true =>
      have e : fnd f (lps rs) l s (j + 1) o = some o := by rw [fnd, if_pos hc]
      rw [e]
      simp only [Bool.and_eq_true] at hc
      rw [hc.1, hc.2] at st
      exact ⟨1, loopN_end st (by show Ex.ret ≠ Ex.nrm; decide)⟩
    | false =>
      have e : fnd f (lps rs) l s (j + 1) o = fnd f (lps rs) l s j (o + 1) := by rw [fnd, if_neg (by rw [hc]; decide)]
      rw [e]
      refine ⟨m + 1, loopN_step (go hc) rfl (vals' := [.ptr 0 0 0 0, .ptr 1 0 0 0, .int .i64 s, .int .i64 (o + 1)]) (bs' := [.cells [.int .i64 f, .sl 2 0 0 2 n none], .cells l.vs, .rows lpK rs]) (by kernel_rfl) (by kernel_rfl) (by kernel_rfl) ih' ?_⟩
      cases fnd f (lps rs) l s j (o + 1) <;> (show (seqAfter _ _ _).den = some _; kernel_rfl)
def oIs (o : Option Int) : Bool := match o with | some _ => true | none => false
def oGet (o : Option Int) : Int := match o with | some x => x | none => 0
def rtF (vals : List V) (bs : List Blk) : Tree LRes := match vals, bs with
  | [.ptr 0 0 0 0, .ptr 1 0 0 0, .int .i64 s, .int .i64 o], [.cells [.int .i64 f, .sl 2 0 0 2 n none], .cells cs, .rows [.int .i64, .int .i64] rs] =>
    match Lab.of (.agg cs) with
    | some l => .need (decide (n = rs.length) && goodT f (lps rs) && decide (o = IntKind.i64.wrap (f - 64)) && decide (0 ≤ s) && decide (s ≤ 300000000000)) (.ite (oIs (fnd f (lps rs) l s 129 (f - 64))) (.leaf ⟨.ret, [.int .i64 (s + oGet (fnd f (lps rs) l s 129 (f - 64))), .tru], [none, none, none], []⟩) (.leaf ⟨.exit 0, [.any, .any], [none, none, none], []⟩))
    | none => .fail
  | _, _ => .fail
def rtL : LSpec := ⟨45, [2, 3, 6, 8], [4, 5], rtF⟩
theorem rt_loop : LoopOK P (loopAt Tryd.f24 0) rtL := by
  refine loop_ok rtlG_ok Go.Proofs.YtbfiaogmfjadeaaDoor.hm (Λ := loopsOf []) (LoopsOK.nil (by kernel_rfl)) _ ?_
  intro vals bs r h
  simp only [rtL, rtF] at h
  split at h
  · split at h
    · rename_i s o f n cs rs _ l hl
      have hcs : cs = l.vs := by have := Lab.of_eq hl; simpa [Lab.v] using this
      rw [den_need, denI, denLf, denLf] at h
      simp only [Bool.and_eq_true, decide_eq_true_eq] at h
      obtain ⟨⟨⟨⟨⟨h1, hg⟩, ho⟩, hs1⟩, hs2⟩, h⟩ := h
      obtain ⟨g1, g2, g3, g4⟩ := goodT_iff.1 hg
      rw [wrap64_id (by omega) (by omega)] at ho
      subst ho hcs
      obtain ⟨m, hm⟩ := rt_all (l := l) h1 hg ⟨hs1, hs2⟩ 129 (f - 64) (by omega) (by omega)
      refine ⟨m, hm.trans ?_⟩
      cases hf : fnd f (lps rs) l s 129 (f - 64) <;> rw [hf] at h <;> exact h
    · simp [den_fail] at h
  · simp [den_fail] at h
abbrev rtaG : List (Nat × Rx.Spec) := [(45, secS), (17, rlbS)]
theorem rtaG_ok : GammaOK P rtaG := .cons refSec_ok (.cons rlb_ok (.nil P))
def rtaS : Rx.Spec := fun a b => match a, b with
  | [.agg [.int .i64 f, .sl 0 0 0 2 n none], v], [.rows [.int .i64, .int .i64] rs] => match Lab.of v with
    | some l => .need (decide (n = rs.length) && goodT f (lps rs)) (.ite (taiB f (lps rs) l) (.leaf ⟨.tup [.int .i64 (taiZ f (lps rs) l), .bool true], [none], []⟩) (.leaf ⟨.tup [.int .i64 0, .bool false], [none], []⟩))
    | none => .fail
  | _, _ => .fail
theorem rta_ok : SpecOK P 24 rtaS := by
  refine specOK_fast rtaG_ok hm (Λ := loopsOf [(5, rtL)]) Tryd.func24 (by kernel_rfl) (LoopsOK.one (by kernel_rfl) rt_loop) ?_
  intro args bs r h
  unfold rtaS at h
  split at h
  · split at h
    · rename_i f n v rs _ l hl
      rw [Lab.of_eq hl]
      rw [den_need, denI, denLf, denLf] at h
      simp only [Bool.and_eq_true, decide_eq_true_eq] at h
      obtain ⟨⟨h1, hg⟩, hk⟩ := h
      obtain ⟨g1, g2, g3, g4⟩ := goodT_iff.1 hg
      rw [show (fFn P (specsOf rtaG) (loopsOf [(5, rtL)]) Tryd.f24 [.agg [.int .i64 f, .sl 0 0 0 2 n none], l.v] [.rows lpK rs]).denN = Tree.denN (Tree.ite (rightZ l) (Tree.ite (decide (n = rs.length) && goodT f (lps rs) && decide (IntKind.i64.wrap (f - 64) = IntKind.i64.wrap (f - 64)) && decide (0 ≤ secZ l) && decide (secZ l ≤ 300000000000)) (Tree.ite (oIs (fnd f (lps rs) l (secZ l) 129 (f - 64))) (Tree.leaf { v := V.tup [V.int IntKind.i64 (secZ l + oGet (fnd f (lps rs) l (secZ l) 129 (f - 64))), V.tru], upd := [none], new := [] }) (Tree.leaf { v := V.tup [V.int IntKind.i64 0, V.fls], upd := [none], new := [] })) Tree.fail) (Tree.leaf { v := V.tup [V.int IntKind.i64 0, V.fls], upd := [none], new := [] })) from by kernel_rfl]
      simp only [denN_ite, denN_leaf, denN_fail, decide_eq_true h1, hg, decide_true]
      cases hr : rightZ l with
      | false =>
        have e : taiB f (lps rs) l = false := by unfold taiB; rw [hr]; rfl
        rw [e, if_neg (by decide)] at hk; cases hk; rfl
      | true =>
        obtain ⟨q0, q1, q2, q3, q4, q5, q6, q7⟩ := right_mem hr
        obtain ⟨m1, m2, m3, m4, m5, m6, m7, m8⟩ := day_mem q0
        have hs : 0 ≤ secZ l ∧ secZ l ≤ 300000000000 := by unfold secZ; omega
        rw [fnd_tai hg, decide_eq_true hs.1, decide_eq_true hs.2]
        cases ht : taiB f (lps rs) l with
        | false => rw [ht, if_neg (by decide)] at hk; cases hk; rfl
        | true =>
          rw [ht, if_pos rfl] at hk; cases hk
          have : secZ l + oGet (if true = true then some (taiZ f (lps rs) l - secZ l) else none) = taiZ f (lps rs) l := by simp [oGet]; omega
          rw [this]; rfl
    · simp [den_fail] at h
  · simp [den_fail] at h
end Go.Proofs.YtbfiaogmfjadeaaDoor
