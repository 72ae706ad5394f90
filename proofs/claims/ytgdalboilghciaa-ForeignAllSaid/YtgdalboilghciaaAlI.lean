/- Layer 8: the reference's answers. The conditions stand in the specifications. -/
import Derived.Test.YtgdalboilghciaaAlF
import Derived.Test.YtgdalboilghciaaAlC
import Derived.Test.YtgdalboilghciaaAlD
import Derived.Test.YtgdalboilghciaaAlE
set_option linter.unusedSimpArgs false
set_option linter.unusedVariables false
set_option linter.unnecessarySimpa false
set_option linter.unusedSectionVars false
set_option maxRecDepth 100000
set_option linter.unusedSimpArgs false
set_option linter.unusedVariables false
namespace Go.Proofs.Ytgdalboilghciaa
open Go.Rx
def rFind (p : Prt) : RTab → Nat → Option Nat
  | [], _ => none
  | e :: r, k => match e.s.snd.eqB p with
    | true => some k
    | false => rFind p r (k + 1)
def optI : Option Nat → Int
  | none => -1
  | some k => (k : Int)
theorem fiT_den (bs : List Blk) (p : Prt) : ∀ (es : RTab) (k : Nat), (fiT bs p es (k : Int)).denN = some (Res.nrm ⟨.int .i64 (optI (rFind p es k)), noneL bs, []⟩)
  | [], k => rfl
  | e :: r, k => by
    rw [fiT, denN_ite, rFind]
    cases e.s.snd.eqB p with
    | true => rfl
    | false =>
      have := fiT_den bs p r (k + 1)
      rw [show (((k + 1 : Nat) : Int)) = (k : Int) + 1 by omega] at this
      exact this
def rPlace (p : Prt) : RTab → Nat → Nat
  | [], j => j
  | x :: r, j => match decide (cmpP p x.s.snd < 0) with
    | true => j
    | false => rPlace p r (j + 1)
theorem wtT_den (own : Ck) (ev : Int) (es : RTab) (e : RefE) : ∀ (l : RTab) (j : Nat), (wtT own ev es e l j).denN = some (Res.nrm (wtR own ev es e (rPlace e.s.snd l j)))
  | [], j => rfl
  | x :: r, j => by
    rw [wtT, denN_ite, rPlace]
    cases decide (cmpP e.s.snd x.s.snd < 0) with
    | true => rfl
    | false => exact wtT_den own ev es e r (j + 1)
theorem rPlace_le (p : Prt) : ∀ (l : RTab) (j : Nat), j ≤ rPlace p l j ∧ rPlace p l j ≤ j + l.length
  | [], j => ⟨Nat.le_refl _, Nat.le_refl _⟩
  | x :: r, j => by
    rw [rPlace]
    split
    · exact ⟨Nat.le_refl _, by omega⟩
    · obtain ⟨h1, h2⟩ := rPlace_le p r (j + 1)
      exact ⟨by omega, by simp only [List.length_cons]; omega⟩
theorem rFind_lt {p : Prt} : ∀ {es : RTab} {k i : Nat}, rFind p es k = some i → k ≤ i ∧ i < k + es.length ∧ ∃ e, es[i - k]? = some e ∧ e.s.snd = p
  | [], k, i, h => by cases h
  | e :: r, k, i, h => by
    rw [rFind] at h
    split at h
    · rename_i he
      cases h
      refine ⟨Nat.le_refl _, by simp, e, ?_, Prt.eqB_iff.1 he⟩
      rw [Nat.sub_self]
      rfl
    · obtain ⟨h1, h2, y, h3, h4⟩ := rFind_lt h
      refine ⟨by omega, by simp; omega, y, ?_, h4⟩
      rw [show i - k = (i - (k + 1)) + 1 by omega]
      simpa using h3
/-- Find's answer. -/
theorem fi_ans (own : Ck) (ev : Int) (p : Prt) : ∀ es : RTab, es.length ≤ 5 → (fiF [refV own ev es, p.v] (refB es)).denN = some (Res.nrm ⟨.int .i64 (optI (rFind p es 0)), noneL (refB es), []⟩) := by
  intro es h
  rcases es with _ | ⟨a, _ | ⟨b, _ | ⟨c, _ | ⟨d, _ | ⟨e, _ | ⟨f, l⟩⟩⟩⟩⟩⟩
  · exact (fi_0 own ev p).trans (fiT_den _ p _ 0)
  · exact (fi_1 own ev p a).trans (fiT_den _ p _ 0)
  · exact (fi_2 own ev p a b).trans (fiT_den _ p _ 0)
  · exact (fi_3 own ev p a b c).trans (fiT_den _ p _ 0)
  · exact (fi_4 own ev p a b c d).trans (fiT_den _ p _ 0)
  · exact (fi_5 own ev p a b c d e).trans (fiT_den _ p _ 0)
  · simp at h
/-- The answer of 'with'. -/
theorem wt_ans (own : Ck) (ev : Int) (x : RefE) : ∀ es : RTab, es.length ≤ 4 → (wtF (wtA own ev es x) (wtB es x)).denN = some (Res.nrm (wtR own ev es x (rPlace x.s.snd es 0))) := by
  intro es h
  rcases es with _ | ⟨a, _ | ⟨b, _ | ⟨c, _ | ⟨d, _ | ⟨e, l⟩⟩⟩⟩⟩
  · exact (wt_0 own ev x).trans (wtT_den _ _ _ _ _ _)
  · exact (wt_1 own ev x a).trans (wtT_den _ _ _ _ _ _)
  · exact (wt_2 own ev x a b).trans (wtT_den _ _ _ _ _ _)
  · exact (wt_3 own ev x a b c).trans (wtT_den _ _ _ _ _ _)
  · exact (wt_4 own ev x a b c d).trans (wtT_den _ _ _ _ _ _)
  · simp at h
end Go.Proofs.Ytgdalboilghciaa

set_option maxRecDepth 100000
set_option linter.unusedSimpArgs false
set_option linter.unusedVariables false
namespace Go.Proofs.Ytgdalboilghciaa
open Go.Rx
theorem wo_ans (own : Ck) (ev : Int) (j : Nat) : ∀ es : RTab, es.length ≤ 5 → j < es.length → (woF [refV own ev es, .int .i64 (j : Int)] (refB es)).denN = some (Res.nrm (woR own ev es j)) := by
  intro es h hj
  rcases es with _ | ⟨a0, _ | ⟨a1, _ | ⟨a2, _ | ⟨a3, _ | ⟨a4, _ | ⟨f, l⟩⟩⟩⟩⟩⟩
  · simp at hj
  · obtain rfl : j = 0 := by
      simp only [List.length_cons, List.length_nil] at hj
      omega
    · exact wo_1_0 own ev a0
  · obtain rfl | rfl : j = 0 ∨ j = 1 := by
      simp only [List.length_cons, List.length_nil] at hj
      omega
    · exact wo_2_0 own ev a0 a1
    · exact wo_2_1 own ev a0 a1
  · obtain rfl | rfl | rfl : j = 0 ∨ j = 1 ∨ j = 2 := by
      simp only [List.length_cons, List.length_nil] at hj
      omega
    · exact wo_3_0 own ev a0 a1 a2
    · exact wo_3_1 own ev a0 a1 a2
    · exact wo_3_2 own ev a0 a1 a2
  · obtain rfl | rfl | rfl | rfl : j = 0 ∨ j = 1 ∨ j = 2 ∨ j = 3 := by
      simp only [List.length_cons, List.length_nil] at hj
      omega
    · exact wo_4_0 own ev a0 a1 a2 a3
    · exact wo_4_1 own ev a0 a1 a2 a3
    · exact wo_4_2 own ev a0 a1 a2 a3
    · exact wo_4_3 own ev a0 a1 a2 a3
  · obtain rfl | rfl | rfl | rfl | rfl : j = 0 ∨ j = 1 ∨ j = 2 ∨ j = 3 ∨ j = 4 := by
      simp only [List.length_cons, List.length_nil] at hj
      omega
    · exact wo_5_0 own ev a0 a1 a2 a3 a4
    · exact wo_5_1 own ev a0 a1 a2 a3 a4
    · exact wo_5_2 own ev a0 a1 a2 a3 a4
    · exact wo_5_3 own ev a0 a1 a2 a3 a4
    · exact wo_5_4 own ev a0 a1 a2 a3 a4
  · simp at h
end Go.Proofs.Ytgdalboilghciaa

set_option maxRecDepth 100000
set_option linter.unusedSimpArgs false
set_option linter.unusedVariables false
namespace Go.Proofs.Ytgdalboilghciaa
open Go.Rx
instance : Inhabited RefE := ⟨⟨default, [], 0, none⟩⟩
theorem rh1_all (own : Ck) (ev now : Int) (s : Ste) (k j : Nat) : ∀ es : RTab, es.length ≤ 5 → k < es.length → j < es.length →
    Tree.denN (rhF [rhFi own ev es s (k : Int), (30, rlS), rhWo own ev es k, rhWt own ev (es.eraseIdx k) (reE s now (es.getD k default)) j] [refV own ev es, s.v, .int .i64 now] (refB es)) = Tree.denN (rhT1 own ev now es s k j (es.getD k default) (es.eraseIdx k)) := by
  intro es h hk hj
  rcases es with _ | ⟨a0, _ | ⟨a1, _ | ⟨a2, _ | ⟨a3, _ | ⟨a4, _ | ⟨f, l⟩⟩⟩⟩⟩⟩
  · simp at hk
  · obtain rfl : k = 0 := by
      simp only [List.length_cons, List.length_nil] at hk
      omega
    · obtain rfl : j = 0 := by
        simp only [List.length_cons, List.length_nil] at hj
        omega
      · exact rh1_1_0_0 own ev now s a0
  · obtain rfl | rfl : k = 0 ∨ k = 1 := by
      simp only [List.length_cons, List.length_nil] at hk
      omega
    · obtain rfl | rfl : j = 0 ∨ j = 1 := by
        simp only [List.length_cons, List.length_nil] at hj
        omega
      · exact rh1_2_0_0 own ev now s a0 a1
      · exact rh1_2_0_1 own ev now s a0 a1
    · obtain rfl | rfl : j = 0 ∨ j = 1 := by
        simp only [List.length_cons, List.length_nil] at hj
        omega
      · exact rh1_2_1_0 own ev now s a0 a1
      · exact rh1_2_1_1 own ev now s a0 a1
  · obtain rfl | rfl | rfl : k = 0 ∨ k = 1 ∨ k = 2 := by
      simp only [List.length_cons, List.length_nil] at hk
      omega
    · obtain rfl | rfl | rfl : j = 0 ∨ j = 1 ∨ j = 2 := by
        simp only [List.length_cons, List.length_nil] at hj
        omega
      · exact rh1_3_0_0 own ev now s a0 a1 a2
      · exact rh1_3_0_1 own ev now s a0 a1 a2
      · exact rh1_3_0_2 own ev now s a0 a1 a2
    · obtain rfl | rfl | rfl : j = 0 ∨ j = 1 ∨ j = 2 := by
        simp only [List.length_cons, List.length_nil] at hj
        omega
      · exact rh1_3_1_0 own ev now s a0 a1 a2
      · exact rh1_3_1_1 own ev now s a0 a1 a2
      · exact rh1_3_1_2 own ev now s a0 a1 a2
    · obtain rfl | rfl | rfl : j = 0 ∨ j = 1 ∨ j = 2 := by
        simp only [List.length_cons, List.length_nil] at hj
        omega
      · exact rh1_3_2_0 own ev now s a0 a1 a2
      · exact rh1_3_2_1 own ev now s a0 a1 a2
      · exact rh1_3_2_2 own ev now s a0 a1 a2
  · obtain rfl | rfl | rfl | rfl : k = 0 ∨ k = 1 ∨ k = 2 ∨ k = 3 := by
      simp only [List.length_cons, List.length_nil] at hk
      omega
    · obtain rfl | rfl | rfl | rfl : j = 0 ∨ j = 1 ∨ j = 2 ∨ j = 3 := by
        simp only [List.length_cons, List.length_nil] at hj
        omega
      · exact rh1_4_0_0 own ev now s a0 a1 a2 a3
      · exact rh1_4_0_1 own ev now s a0 a1 a2 a3
      · exact rh1_4_0_2 own ev now s a0 a1 a2 a3
      · exact rh1_4_0_3 own ev now s a0 a1 a2 a3
    · obtain rfl | rfl | rfl | rfl : j = 0 ∨ j = 1 ∨ j = 2 ∨ j = 3 := by
        simp only [List.length_cons, List.length_nil] at hj
        omega
      · exact rh1_4_1_0 own ev now s a0 a1 a2 a3
      · exact rh1_4_1_1 own ev now s a0 a1 a2 a3
      · exact rh1_4_1_2 own ev now s a0 a1 a2 a3
      · exact rh1_4_1_3 own ev now s a0 a1 a2 a3
    · obtain rfl | rfl | rfl | rfl : j = 0 ∨ j = 1 ∨ j = 2 ∨ j = 3 := by
        simp only [List.length_cons, List.length_nil] at hj
        omega
      · exact rh1_4_2_0 own ev now s a0 a1 a2 a3
      · exact rh1_4_2_1 own ev now s a0 a1 a2 a3
      · exact rh1_4_2_2 own ev now s a0 a1 a2 a3
      · exact rh1_4_2_3 own ev now s a0 a1 a2 a3
    · obtain rfl | rfl | rfl | rfl : j = 0 ∨ j = 1 ∨ j = 2 ∨ j = 3 := by
        simp only [List.length_cons, List.length_nil] at hj
        omega
      · exact rh1_4_3_0 own ev now s a0 a1 a2 a3
      · exact rh1_4_3_1 own ev now s a0 a1 a2 a3
      · exact rh1_4_3_2 own ev now s a0 a1 a2 a3
      · exact rh1_4_3_3 own ev now s a0 a1 a2 a3
  · obtain rfl | rfl | rfl | rfl | rfl : k = 0 ∨ k = 1 ∨ k = 2 ∨ k = 3 ∨ k = 4 := by
      simp only [List.length_cons, List.length_nil] at hk
      omega
    · obtain rfl | rfl | rfl | rfl | rfl : j = 0 ∨ j = 1 ∨ j = 2 ∨ j = 3 ∨ j = 4 := by
        simp only [List.length_cons, List.length_nil] at hj
        omega
      · exact rh1_5_0_0 own ev now s a0 a1 a2 a3 a4
      · exact rh1_5_0_1 own ev now s a0 a1 a2 a3 a4
      · exact rh1_5_0_2 own ev now s a0 a1 a2 a3 a4
      · exact rh1_5_0_3 own ev now s a0 a1 a2 a3 a4
      · exact rh1_5_0_4 own ev now s a0 a1 a2 a3 a4
    · obtain rfl | rfl | rfl | rfl | rfl : j = 0 ∨ j = 1 ∨ j = 2 ∨ j = 3 ∨ j = 4 := by
        simp only [List.length_cons, List.length_nil] at hj
        omega
      · exact rh1_5_1_0 own ev now s a0 a1 a2 a3 a4
      · exact rh1_5_1_1 own ev now s a0 a1 a2 a3 a4
      · exact rh1_5_1_2 own ev now s a0 a1 a2 a3 a4
      · exact rh1_5_1_3 own ev now s a0 a1 a2 a3 a4
      · exact rh1_5_1_4 own ev now s a0 a1 a2 a3 a4
    · obtain rfl | rfl | rfl | rfl | rfl : j = 0 ∨ j = 1 ∨ j = 2 ∨ j = 3 ∨ j = 4 := by
        simp only [List.length_cons, List.length_nil] at hj
        omega
      · exact rh1_5_2_0 own ev now s a0 a1 a2 a3 a4
      · exact rh1_5_2_1 own ev now s a0 a1 a2 a3 a4
      · exact rh1_5_2_2 own ev now s a0 a1 a2 a3 a4
      · exact rh1_5_2_3 own ev now s a0 a1 a2 a3 a4
      · exact rh1_5_2_4 own ev now s a0 a1 a2 a3 a4
    · obtain rfl | rfl | rfl | rfl | rfl : j = 0 ∨ j = 1 ∨ j = 2 ∨ j = 3 ∨ j = 4 := by
        simp only [List.length_cons, List.length_nil] at hj
        omega
      · exact rh1_5_3_0 own ev now s a0 a1 a2 a3 a4
      · exact rh1_5_3_1 own ev now s a0 a1 a2 a3 a4
      · exact rh1_5_3_2 own ev now s a0 a1 a2 a3 a4
      · exact rh1_5_3_3 own ev now s a0 a1 a2 a3 a4
      · exact rh1_5_3_4 own ev now s a0 a1 a2 a3 a4
    · obtain rfl | rfl | rfl | rfl | rfl : j = 0 ∨ j = 1 ∨ j = 2 ∨ j = 3 ∨ j = 4 := by
        simp only [List.length_cons, List.length_nil] at hj
        omega
      · exact rh1_5_4_0 own ev now s a0 a1 a2 a3 a4
      · exact rh1_5_4_1 own ev now s a0 a1 a2 a3 a4
      · exact rh1_5_4_2 own ev now s a0 a1 a2 a3 a4
      · exact rh1_5_4_3 own ev now s a0 a1 a2 a3 a4
      · exact rh1_5_4_4 own ev now s a0 a1 a2 a3 a4
  · simp at h
theorem rh2_all (own : Ck) (ev now : Int) (s : Ste) (j : Nat) : ∀ es : RTab, es.length ≤ 4 → j ≤ es.length →
    Tree.denN (rhF [rhFi own ev es s (-1), rhWt own ev es (nwE s now) j] [refV own ev es, s.v, .int .i64 now] (refB es)) = Tree.denN (rhT2 own ev now es s j) := by
  intro es h hj
  rcases es with _ | ⟨a0, _ | ⟨a1, _ | ⟨a2, _ | ⟨a3, _ | ⟨f, l⟩⟩⟩⟩⟩
  · obtain rfl : j = 0 := by
      simp only [List.length_nil] at hj
      omega
    exact rh2_0_0 own ev now s
  · obtain rfl | rfl : j = 0 ∨ j = 1 := by
      simp only [List.length_cons, List.length_nil] at hj
      omega
    · exact rh2_1_0 own ev now s a0
    · exact rh2_1_1 own ev now s a0
  · obtain rfl | rfl | rfl : j = 0 ∨ j = 1 ∨ j = 2 := by
      simp only [List.length_cons, List.length_nil] at hj
      omega
    · exact rh2_2_0 own ev now s a0 a1
    · exact rh2_2_1 own ev now s a0 a1
    · exact rh2_2_2 own ev now s a0 a1
  · obtain rfl | rfl | rfl | rfl : j = 0 ∨ j = 1 ∨ j = 2 ∨ j = 3 := by
      simp only [List.length_cons, List.length_nil] at hj
      omega
    · exact rh2_3_0 own ev now s a0 a1 a2
    · exact rh2_3_1 own ev now s a0 a1 a2
    · exact rh2_3_2 own ev now s a0 a1 a2
    · exact rh2_3_3 own ev now s a0 a1 a2
  · obtain rfl | rfl | rfl | rfl | rfl : j = 0 ∨ j = 1 ∨ j = 2 ∨ j = 3 ∨ j = 4 := by
      simp only [List.length_cons, List.length_nil] at hj
      omega
    · exact rh2_4_0 own ev now s a0 a1 a2 a3
    · exact rh2_4_1 own ev now s a0 a1 a2 a3
    · exact rh2_4_2 own ev now s a0 a1 a2 a3
    · exact rh2_4_3 own ev now s a0 a1 a2 a3
    · exact rh2_4_4 own ev now s a0 a1 a2 a3
  · simp at h
theorem rh3_all (own : Ck) (ev now : Int) (s : Ste) (o j : Nat) : ∀ es : RTab, es.length = 5 → o < 5 → j < 5 →
    Tree.denN (rhF [rhFi own ev es s (-1), rhOv own ev now es (o : Int), rhWo own ev es o, rhWt own ev (es.eraseIdx o) (nwE s now) j] [refV own ev es, s.v, .int .i64 now] (refB es)) = Tree.denN (rhT3 own ev now es s o j (es.eraseIdx o)) := by
  intro es h ho hj
  rcases es with _ | ⟨a0, _ | ⟨a1, _ | ⟨a2, _ | ⟨a3, _ | ⟨a4, _ | ⟨f, l⟩⟩⟩⟩⟩⟩
  · simp at h
  · simp at h
  · simp at h
  · simp at h
  · simp at h
  · obtain rfl | rfl | rfl | rfl | rfl : o = 0 ∨ o = 1 ∨ o = 2 ∨ o = 3 ∨ o = 4 := by omega
    · obtain rfl | rfl | rfl | rfl | rfl : j = 0 ∨ j = 1 ∨ j = 2 ∨ j = 3 ∨ j = 4 := by omega
      · exact rh3_0_0 own ev now s a0 a1 a2 a3 a4
      · exact rh3_0_1 own ev now s a0 a1 a2 a3 a4
      · exact rh3_0_2 own ev now s a0 a1 a2 a3 a4
      · exact rh3_0_3 own ev now s a0 a1 a2 a3 a4
      · exact rh3_0_4 own ev now s a0 a1 a2 a3 a4
    · obtain rfl | rfl | rfl | rfl | rfl : j = 0 ∨ j = 1 ∨ j = 2 ∨ j = 3 ∨ j = 4 := by omega
      · exact rh3_1_0 own ev now s a0 a1 a2 a3 a4
      · exact rh3_1_1 own ev now s a0 a1 a2 a3 a4
      · exact rh3_1_2 own ev now s a0 a1 a2 a3 a4
      · exact rh3_1_3 own ev now s a0 a1 a2 a3 a4
      · exact rh3_1_4 own ev now s a0 a1 a2 a3 a4
    · obtain rfl | rfl | rfl | rfl | rfl : j = 0 ∨ j = 1 ∨ j = 2 ∨ j = 3 ∨ j = 4 := by omega
      · exact rh3_2_0 own ev now s a0 a1 a2 a3 a4
      · exact rh3_2_1 own ev now s a0 a1 a2 a3 a4
      · exact rh3_2_2 own ev now s a0 a1 a2 a3 a4
      · exact rh3_2_3 own ev now s a0 a1 a2 a3 a4
      · exact rh3_2_4 own ev now s a0 a1 a2 a3 a4
    · obtain rfl | rfl | rfl | rfl | rfl : j = 0 ∨ j = 1 ∨ j = 2 ∨ j = 3 ∨ j = 4 := by omega
      · exact rh3_3_0 own ev now s a0 a1 a2 a3 a4
      · exact rh3_3_1 own ev now s a0 a1 a2 a3 a4
      · exact rh3_3_2 own ev now s a0 a1 a2 a3 a4
      · exact rh3_3_3 own ev now s a0 a1 a2 a3 a4
      · exact rh3_3_4 own ev now s a0 a1 a2 a3 a4
    · obtain rfl | rfl | rfl | rfl | rfl : j = 0 ∨ j = 1 ∨ j = 2 ∨ j = 3 ∨ j = 4 := by omega
      · exact rh3_4_0 own ev now s a0 a1 a2 a3 a4
      · exact rh3_4_1 own ev now s a0 a1 a2 a3 a4
      · exact rh3_4_2 own ev now s a0 a1 a2 a3 a4
      · exact rh3_4_3 own ev now s a0 a1 a2 a3 a4
      · exact rh3_4_4 own ev now s a0 a1 a2 a3 a4
  · simp at h
end Go.Proofs.Ytgdalboilghciaa

set_option maxRecDepth 100000
set_option linter.unusedSimpArgs false
set_option linter.unusedVariables false
namespace Go.Proofs.Ytgdalboilghciaa
open Go.Rx
theorem q_den (a : List V) (b : List Blk) (T : Tree Res) : (q a b T).denN = T.denN := by
  unfold q
  rw [eqAB_self]
  rfl
/-- The bounds of what is heard, as the document has them. -/
def rBad (own : Ck) (s : Ste) (now : Int) : Bool := decide (now < 0) || (decide (now > 4611686018427387904) || (s.snd.c.eqB own || (decide (s.st < 0) || decide (s.st > 254))))
theorem rBad_eq (own : Ck) (s : Ste) (now : Int) : rBad own s now = badB own s now := by
  unfold rBad badB
  rw [show decide (s.st > 254) = decide (s.st ≥ 255) by rw [decide_eq_decide]; omega]
theorem rhBad_den (own : Ck) (s : Ste) (now : Int) (I T : Tree Res) : (rhBad own s now I T).denN = match badB own s now with | true => I.denN | false => T.denN := by
  rw [← rBad_eq]
  unfold rhBad rBad
  simp only [denN_ite]
  cases decide (now < 0) with
  | true => rfl
  | false =>
    cases decide (now > 4611686018427387904) with
    | true => rfl
    | false =>
      cases s.snd.c.eqB own with
      | true => rfl
      | false =>
        cases decide (s.st < 0) with
        | true => rfl
        | false => cases decide (s.st > 254) <;> rfl
theorem rhT1_den {own : Ck} {ev now : Int} {es : RTab} {s : Ste} {k j : Nat} {a : RefE} {es' : RTab} (h : okE a.len a.ts = true) : (rhT1 own ev now es s k j a es').denN = some (Res.nrm (match badB own s now || decide (lastT a.ts > now) with | true => rhN own ev es 0 | false => rhR own ev es (some k) j (reE s now a) 1)) := by
  have h0 := h
  unfold okE at h0
  simp only [Bool.and_eq_true, decide_eq_true_eq] at h0
  obtain ⟨h1, h2, h3⟩ := h0
  have hY : reY a = a.ts := by
    unfold reY
    rw [List.drop_zero, h2, List.take_length]
  have hZ : reZ now a = a.ts ++ [now] := by
    unfold reZ
    rw [hY, List.drop_zero, List.take_length]
  unfold rhT1 rhT0
  rw [q_den, rhBad_den]
  cases badB own s now with
  | true => rfl
  | false =>
    rw [h, hY, hZ]
    show (Tree.ite (decide (lastT a.ts > now)) _ _ : Tree Res).denN = _
    rw [denN_ite]
    cases decide (lastT a.ts > now) with
    | true => rfl
    | false =>
      show (Tree.need (decide (0 + a.len ≤ a.ts.length)) _ : Tree Res).denN = _
      rw [decide_eq_true (show 0 + a.len ≤ a.ts.length by omega), decide_eq_true (show a.ts.length * 8 ≤ 140737488355328 by omega), decide_eq_true (show 0 + a.ts.length ≤ a.ts.length by omega), decide_eq_true (show (a.ts ++ [now]).length * 8 ≤ 140737488355328 by simp; omega)]
      show (q _ _ (q _ _ _)).denN = _
      rw [q_den, q_den]
      rfl
theorem rhT2_den {own : Ck} {ev now : Int} {es : RTab} {s : Ste} {j : Nat} : (rhT2 own ev now es s j).denN = some (Res.nrm (match badB own s now with | true => rhN own ev es 0 | false => rhR own ev es none j (nwE s now) 2)) := by
  unfold rhT2 rhT0
  rw [q_den, rhBad_den, q_den]
  cases badB own s now <;> rfl
theorem rhT3_den {own : Ck} {ev now : Int} {es : RTab} {s : Ste} {o j : Nat} {es' : RTab} : (rhT3 own ev now es s o j es').denN = some (Res.nrm (match badB own s now with | true => rhN own ev es 0 | false => rhR own ev es (some o) j (nwE s now) 3)) := by
  unfold rhT3 rhT0
  rw [q_den, rhBad_den, q_den, q_den, q_den]
  cases badB own s now <;> rfl
theorem rhT4_den {own : Ck} {ev now : Int} {es : RTab} {s : Ste} : (rhT4 own ev now es s).denN = some (Res.nrm (match badB own s now with | true => rhN own ev es 0 | false => rhN own ev es 4)) := by
  unfold rhT4 rhT0
  rw [q_den, rhBad_den, q_den]
  cases badB own s now <;> rfl
end Go.Proofs.Ytgdalboilghciaa

set_option maxRecDepth 100000
set_option linter.unusedSimpArgs false
set_option linter.unusedVariables false
namespace Go.Proofs.Ytgdalboilghciaa
open Go.Rx
theorem rdx_all (own : Ck) (ev : Int) (o : Opp) : ∀ es : RTab, es.length ≤ 5 → Tree.denN (rdF [] [refV own ev es, o.v] (refB es)) = Tree.denN (rdT own ev es o .fail .fail) := by
  intro es h
  rcases es with _ | ⟨a0, _ | ⟨a1, _ | ⟨a2, _ | ⟨a3, _ | ⟨a4, _ | ⟨f, l⟩⟩⟩⟩⟩⟩
  · exact rdx_0 own ev o 
  · exact rdx_1 own ev o a0
  · exact rdx_2 own ev o a0 a1
  · exact rdx_3 own ev o a0 a1 a2
  · exact rdx_4 own ev o a0 a1 a2 a3
  · exact rdx_5 own ev o a0 a1 a2 a3 a4
  · simp at h
theorem rdn_all (own : Ck) (ev : Int) (o : Opp) (t : Int) : ∀ es : RTab, es.length ≤ 5 → Tree.denN (rdF [rdH own ev es o (rhN own ev es t)] [refV own ev es, o.v] (refB es)) = Tree.denN (rdT own ev es o (rdQ own ev es o (rhN own ev es t)) .fail) := by
  intro es h
  rcases es with _ | ⟨a0, _ | ⟨a1, _ | ⟨a2, _ | ⟨a3, _ | ⟨a4, _ | ⟨f, l⟩⟩⟩⟩⟩⟩
  · exact rdn_0 own ev o t 
  · exact rdn_1 own ev o t a0
  · exact rdn_2 own ev o t a0 a1
  · exact rdn_3 own ev o t a0 a1 a2
  · exact rdn_4 own ev o t a0 a1 a2 a3
  · exact rdn_5 own ev o t a0 a1 a2 a3 a4
  · simp at h
theorem rdf_all (own : Ck) (ev : Int) (o : Opp) : ∀ es : RTab, es.length ≤ 5 → Tree.denN (rdF [rhFi own ev es o.s (-1)] [refV own ev es, o.v] (refB es)) = Tree.denN (rdT own ev es o .fail (q [refV own ev es, o.s.snd.v] (refB es) (.leaf (rhN own ev es 0)))) := by
  intro es h
  rcases es with _ | ⟨a0, _ | ⟨a1, _ | ⟨a2, _ | ⟨a3, _ | ⟨a4, _ | ⟨f, l⟩⟩⟩⟩⟩⟩
  · exact rdf_0 own ev o 
  · exact rdf_1 own ev o a0
  · exact rdf_2 own ev o a0 a1
  · exact rdf_3 own ev o a0 a1 a2
  · exact rdf_4 own ev o a0 a1 a2 a3
  · exact rdf_5 own ev o a0 a1 a2 a3 a4
  · simp at h
theorem rdw_all (own : Ck) (ev : Int) (o : Opp) (j : Nat) : ∀ es : RTab, es.length ≤ 5 → j < es.length → Tree.denN (rdF [rhFi own ev es o.s (j : Int), rhWo own ev es j] [refV own ev es, o.v] (refB es)) = Tree.denN (rdT own ev es o .fail (q [refV own ev es, o.s.snd.v] (refB es) (q [refV own ev es, .int .i64 (j : Int)] (refB es) (.leaf (rdW own ev es j))))) := by
  intro es h hj
  rcases es with _ | ⟨a0, _ | ⟨a1, _ | ⟨a2, _ | ⟨a3, _ | ⟨a4, _ | ⟨f, l⟩⟩⟩⟩⟩⟩
  · simp at hj
  · obtain rfl : j = 0 := by
      simp only [List.length_cons, List.length_nil] at hj
      omega
    · exact rdw_1_0 own ev o a0
  · obtain rfl | rfl : j = 0 ∨ j = 1 := by
      simp only [List.length_cons, List.length_nil] at hj
      omega
    · exact rdw_2_0 own ev o a0 a1
    · exact rdw_2_1 own ev o a0 a1
  · obtain rfl | rfl | rfl : j = 0 ∨ j = 1 ∨ j = 2 := by
      simp only [List.length_cons, List.length_nil] at hj
      omega
    · exact rdw_3_0 own ev o a0 a1 a2
    · exact rdw_3_1 own ev o a0 a1 a2
    · exact rdw_3_2 own ev o a0 a1 a2
  · obtain rfl | rfl | rfl | rfl : j = 0 ∨ j = 1 ∨ j = 2 ∨ j = 3 := by
      simp only [List.length_cons, List.length_nil] at hj
      omega
    · exact rdw_4_0 own ev o a0 a1 a2 a3
    · exact rdw_4_1 own ev o a0 a1 a2 a3
    · exact rdw_4_2 own ev o a0 a1 a2 a3
    · exact rdw_4_3 own ev o a0 a1 a2 a3
  · obtain rfl | rfl | rfl | rfl | rfl : j = 0 ∨ j = 1 ∨ j = 2 ∨ j = 3 ∨ j = 4 := by
      simp only [List.length_cons, List.length_nil] at hj
      omega
    · exact rdw_5_0 own ev o a0 a1 a2 a3 a4
    · exact rdw_5_1 own ev o a0 a1 a2 a3 a4
    · exact rdw_5_2 own ev o a0 a1 a2 a3 a4
    · exact rdw_5_3 own ev o a0 a1 a2 a3 a4
    · exact rdw_5_4 own ev o a0 a1 a2 a3 a4
  · simp at h
theorem rdhn_all (own : Ck) (ev : Int) (o : Opp) (e : RefE) (t : Int) (j : Nat) : ∀ es : RTab, es.length ≤ 4 → j ≤ es.length → Tree.denN (rdF [rdH own ev es o (rhR own ev es none j e t)] [refV own ev es, o.v] (refB es)) = Tree.denN (rdT own ev es o (rdQ own ev es o (rhR own ev es none j e t)) .fail) := by
  intro es h hj
  rcases es with _ | ⟨a0, _ | ⟨a1, _ | ⟨a2, _ | ⟨a3, _ | ⟨f, l⟩⟩⟩⟩⟩
  · obtain rfl : j = 0 := by
      simp only [List.length_cons, List.length_nil] at hj
      omega
    · exact rdh_0_n_0 own ev o e t 
  · obtain rfl | rfl : j = 0 ∨ j = 1 := by
      simp only [List.length_cons, List.length_nil] at hj
      omega
    · exact rdh_1_n_0 own ev o e t a0
    · exact rdh_1_n_1 own ev o e t a0
  · obtain rfl | rfl | rfl : j = 0 ∨ j = 1 ∨ j = 2 := by
      simp only [List.length_cons, List.length_nil] at hj
      omega
    · exact rdh_2_n_0 own ev o e t a0 a1
    · exact rdh_2_n_1 own ev o e t a0 a1
    · exact rdh_2_n_2 own ev o e t a0 a1
  · obtain rfl | rfl | rfl | rfl : j = 0 ∨ j = 1 ∨ j = 2 ∨ j = 3 := by
      simp only [List.length_cons, List.length_nil] at hj
      omega
    · exact rdh_3_n_0 own ev o e t a0 a1 a2
    · exact rdh_3_n_1 own ev o e t a0 a1 a2
    · exact rdh_3_n_2 own ev o e t a0 a1 a2
    · exact rdh_3_n_3 own ev o e t a0 a1 a2
  · obtain rfl | rfl | rfl | rfl | rfl : j = 0 ∨ j = 1 ∨ j = 2 ∨ j = 3 ∨ j = 4 := by
      simp only [List.length_cons, List.length_nil] at hj
      omega
    · exact rdh_4_n_0 own ev o e t a0 a1 a2 a3
    · exact rdh_4_n_1 own ev o e t a0 a1 a2 a3
    · exact rdh_4_n_2 own ev o e t a0 a1 a2 a3
    · exact rdh_4_n_3 own ev o e t a0 a1 a2 a3
    · exact rdh_4_n_4 own ev o e t a0 a1 a2 a3
  · simp at h
theorem rdhs_all (own : Ck) (ev : Int) (o : Opp) (e : RefE) (t : Int) (k j : Nat) : ∀ es : RTab, es.length ≤ 5 → k < es.length → j < es.length → Tree.denN (rdF [rdH own ev es o (rhR own ev es (some k) j e t)] [refV own ev es, o.v] (refB es)) = Tree.denN (rdT own ev es o (rdQ own ev es o (rhR own ev es (some k) j e t)) .fail) := by
  intro es h hk hj
  rcases es with _ | ⟨a0, _ | ⟨a1, _ | ⟨a2, _ | ⟨a3, _ | ⟨a4, _ | ⟨f, l⟩⟩⟩⟩⟩⟩
  · simp at hk
  · obtain rfl : k = 0 := by
      simp only [List.length_cons, List.length_nil] at hk
      omega
    · obtain rfl : j = 0 := by
        simp only [List.length_cons, List.length_nil] at hj
        omega
      · exact rdh_1_0_0 own ev o e t a0
  · obtain rfl | rfl : k = 0 ∨ k = 1 := by
      simp only [List.length_cons, List.length_nil] at hk
      omega
    · obtain rfl | rfl : j = 0 ∨ j = 1 := by
        simp only [List.length_cons, List.length_nil] at hj
        omega
      · exact rdh_2_0_0 own ev o e t a0 a1
      · exact rdh_2_0_1 own ev o e t a0 a1
    · obtain rfl | rfl : j = 0 ∨ j = 1 := by
        simp only [List.length_cons, List.length_nil] at hj
        omega
      · exact rdh_2_1_0 own ev o e t a0 a1
      · exact rdh_2_1_1 own ev o e t a0 a1
  · obtain rfl | rfl | rfl : k = 0 ∨ k = 1 ∨ k = 2 := by
      simp only [List.length_cons, List.length_nil] at hk
      omega
    · obtain rfl | rfl | rfl : j = 0 ∨ j = 1 ∨ j = 2 := by
        simp only [List.length_cons, List.length_nil] at hj
        omega
      · exact rdh_3_0_0 own ev o e t a0 a1 a2
      · exact rdh_3_0_1 own ev o e t a0 a1 a2
      · exact rdh_3_0_2 own ev o e t a0 a1 a2
    · obtain rfl | rfl | rfl : j = 0 ∨ j = 1 ∨ j = 2 := by
        simp only [List.length_cons, List.length_nil] at hj
        omega
      · exact rdh_3_1_0 own ev o e t a0 a1 a2
      · exact rdh_3_1_1 own ev o e t a0 a1 a2
      · exact rdh_3_1_2 own ev o e t a0 a1 a2
    · obtain rfl | rfl | rfl : j = 0 ∨ j = 1 ∨ j = 2 := by
        simp only [List.length_cons, List.length_nil] at hj
        omega
      · exact rdh_3_2_0 own ev o e t a0 a1 a2
      · exact rdh_3_2_1 own ev o e t a0 a1 a2
      · exact rdh_3_2_2 own ev o e t a0 a1 a2
  · obtain rfl | rfl | rfl | rfl : k = 0 ∨ k = 1 ∨ k = 2 ∨ k = 3 := by
      simp only [List.length_cons, List.length_nil] at hk
      omega
    · obtain rfl | rfl | rfl | rfl : j = 0 ∨ j = 1 ∨ j = 2 ∨ j = 3 := by
        simp only [List.length_cons, List.length_nil] at hj
        omega
      · exact rdh_4_0_0 own ev o e t a0 a1 a2 a3
      · exact rdh_4_0_1 own ev o e t a0 a1 a2 a3
      · exact rdh_4_0_2 own ev o e t a0 a1 a2 a3
      · exact rdh_4_0_3 own ev o e t a0 a1 a2 a3
    · obtain rfl | rfl | rfl | rfl : j = 0 ∨ j = 1 ∨ j = 2 ∨ j = 3 := by
        simp only [List.length_cons, List.length_nil] at hj
        omega
      · exact rdh_4_1_0 own ev o e t a0 a1 a2 a3
      · exact rdh_4_1_1 own ev o e t a0 a1 a2 a3
      · exact rdh_4_1_2 own ev o e t a0 a1 a2 a3
      · exact rdh_4_1_3 own ev o e t a0 a1 a2 a3
    · obtain rfl | rfl | rfl | rfl : j = 0 ∨ j = 1 ∨ j = 2 ∨ j = 3 := by
        simp only [List.length_cons, List.length_nil] at hj
        omega
      · exact rdh_4_2_0 own ev o e t a0 a1 a2 a3
      · exact rdh_4_2_1 own ev o e t a0 a1 a2 a3
      · exact rdh_4_2_2 own ev o e t a0 a1 a2 a3
      · exact rdh_4_2_3 own ev o e t a0 a1 a2 a3
    · obtain rfl | rfl | rfl | rfl : j = 0 ∨ j = 1 ∨ j = 2 ∨ j = 3 := by
        simp only [List.length_cons, List.length_nil] at hj
        omega
      · exact rdh_4_3_0 own ev o e t a0 a1 a2 a3
      · exact rdh_4_3_1 own ev o e t a0 a1 a2 a3
      · exact rdh_4_3_2 own ev o e t a0 a1 a2 a3
      · exact rdh_4_3_3 own ev o e t a0 a1 a2 a3
  · obtain rfl | rfl | rfl | rfl | rfl : k = 0 ∨ k = 1 ∨ k = 2 ∨ k = 3 ∨ k = 4 := by
      simp only [List.length_cons, List.length_nil] at hk
      omega
    · obtain rfl | rfl | rfl | rfl | rfl : j = 0 ∨ j = 1 ∨ j = 2 ∨ j = 3 ∨ j = 4 := by
        simp only [List.length_cons, List.length_nil] at hj
        omega
      · exact rdh_5_0_0 own ev o e t a0 a1 a2 a3 a4
      · exact rdh_5_0_1 own ev o e t a0 a1 a2 a3 a4
      · exact rdh_5_0_2 own ev o e t a0 a1 a2 a3 a4
      · exact rdh_5_0_3 own ev o e t a0 a1 a2 a3 a4
      · exact rdh_5_0_4 own ev o e t a0 a1 a2 a3 a4
    · obtain rfl | rfl | rfl | rfl | rfl : j = 0 ∨ j = 1 ∨ j = 2 ∨ j = 3 ∨ j = 4 := by
        simp only [List.length_cons, List.length_nil] at hj
        omega
      · exact rdh_5_1_0 own ev o e t a0 a1 a2 a3 a4
      · exact rdh_5_1_1 own ev o e t a0 a1 a2 a3 a4
      · exact rdh_5_1_2 own ev o e t a0 a1 a2 a3 a4
      · exact rdh_5_1_3 own ev o e t a0 a1 a2 a3 a4
      · exact rdh_5_1_4 own ev o e t a0 a1 a2 a3 a4
    · obtain rfl | rfl | rfl | rfl | rfl : j = 0 ∨ j = 1 ∨ j = 2 ∨ j = 3 ∨ j = 4 := by
        simp only [List.length_cons, List.length_nil] at hj
        omega
      · exact rdh_5_2_0 own ev o e t a0 a1 a2 a3 a4
      · exact rdh_5_2_1 own ev o e t a0 a1 a2 a3 a4
      · exact rdh_5_2_2 own ev o e t a0 a1 a2 a3 a4
      · exact rdh_5_2_3 own ev o e t a0 a1 a2 a3 a4
      · exact rdh_5_2_4 own ev o e t a0 a1 a2 a3 a4
    · obtain rfl | rfl | rfl | rfl | rfl : j = 0 ∨ j = 1 ∨ j = 2 ∨ j = 3 ∨ j = 4 := by
        simp only [List.length_cons, List.length_nil] at hj
        omega
      · exact rdh_5_3_0 own ev o e t a0 a1 a2 a3 a4
      · exact rdh_5_3_1 own ev o e t a0 a1 a2 a3 a4
      · exact rdh_5_3_2 own ev o e t a0 a1 a2 a3 a4
      · exact rdh_5_3_3 own ev o e t a0 a1 a2 a3 a4
      · exact rdh_5_3_4 own ev o e t a0 a1 a2 a3 a4
    · obtain rfl | rfl | rfl | rfl | rfl : j = 0 ∨ j = 1 ∨ j = 2 ∨ j = 3 ∨ j = 4 := by
        simp only [List.length_cons, List.length_nil] at hj
        omega
      · exact rdh_5_4_0 own ev o e t a0 a1 a2 a3 a4
      · exact rdh_5_4_1 own ev o e t a0 a1 a2 a3 a4
      · exact rdh_5_4_2 own ev o e t a0 a1 a2 a3 a4
      · exact rdh_5_4_3 own ev o e t a0 a1 a2 a3 a4
      · exact rdh_5_4_4 own ev o e t a0 a1 a2 a3 a4
  · simp at h
end Go.Proofs.Ytgdalboilghciaa

set_option maxRecDepth 100000
set_option linter.unusedSimpArgs false
set_option linter.unusedVariables false
namespace Go.Proofs.Ytgdalboilghciaa
open Go.Rx
inductive RUp where
  | keep
  | ins (k : Option Nat) (j : Nat) (e : RefE)
  | drop (j : Nat)
  | clear
def RUp.res (own : Ck) (ev : Int) (es : RTab) (t : Int) : RUp → Res
  | .keep => rhN own ev es t
  | .ins k j e => rhR own ev es k j e t
  | .drop j => ⟨.tup [(woR own ev es j).v, .int .i64 t], noneL (refB es), (woR own ev es j).new⟩
  | .clear => ⟨.tup [.agg (own.vs ++ [.int .i64 ev, .nils]), .int .i64 t], noneL (refB es), []⟩
def RUp.tab (es : RTab) : RUp → RTab
  | .keep => es
  | .ins k j e => (match k with | none => es | some k => es.eraseIdx k).insertIdx j e
  | .drop j => es.eraseIdx j
  | .clear => []
def rHear (own : Ck) (ev : Int) (es : RTab) (s : Ste) (now : Int) : RUp × Int := match badB own s now with
  | true => (.keep, 0)
  | false => match rFind s.snd es 0 with
    | some k => match decide (lastT (es.getD k default).ts > now) with
      | true => (.keep, 0)
      | false => (.ins (some k) (rPlace s.snd (es.eraseIdx k) 0) (reE s now (es.getD k default)), 1)
    | none => match Nat.ble 5 es.length with
      | false => (.ins none (rPlace s.snd es 0) (nwE s now), 2)
      | true => match decide (roO ev now es 0 none < 0) with
        | true => (.keep, 4)
        | false => (.ins (some (roO ev now es 0 none).toNat) (rPlace s.snd (es.eraseIdx (roO ev now es 0 none).toNat) 0) (nwE s now), 3)
def rDo (own : Ck) (ev : Int) (es : RTab) (o : Opp) : RUp × Int := match o.k == 0 with
  | true => rHear own ev es o.s o.now
  | false => match o.k == 1 with
    | true => match rFind o.s.snd es 0 with
      | some k => (.drop k, 1)
      | none => (.keep, 0)
    | false => match o.k == 2 with
      | true => (.clear, 0)
      | false => (.keep, 0)
def okT (es : RTab) : Prop := ∀ e ∈ es, okE e.len e.ts = true
theorem roO_cases (ev now : Int) : ∀ (es : RTab) (i : Int) (x : Option (RefE × Int)), roO ev now es i x = (match x with | none => -1 | some x => x.2) ∨ (i ≤ roO ev now es i x ∧ roO ev now es i x < i + es.length)
  | [], i, none => .inl rfl
  | [], i, some x => .inl rfl
  | e :: r, i, none => by
    rw [roO, List.length_cons]
    cases roC ev now e with
    | true =>
      dsimp only
      rcases roO_cases ev now r (i + 1) (some (e, i)) with h | h
      · right
        rw [h]
        dsimp only
        omega
      · right
        omega
    | false =>
      dsimp only
      rcases roO_cases ev now r (i + 1) none with h | h
      · left
        exact h
      · right
        omega
  | e :: r, i, some x => by
    rw [roO, List.length_cons]
    cases roC ev now e && decide (lastT e.ts < lastT x.1.ts) with
    | true =>
      dsimp only
      rcases roO_cases ev now r (i + 1) (some (e, i)) with h | h
      · right
        rw [h]
        dsimp only
        omega
      · right
        omega
    | false =>
      dsimp only
      rcases roO_cases ev now r (i + 1) (some x) with h | h
      · left
        exact h
      · right
        omega
theorem roO_all {own : Ck} {ev now : Int} : ∀ {es : RTab}, es.length = 5 → okT es → ∃ s, SpecOK P 37 s ∧ (s [refV own ev es, .int .i64 now] (refB es)).denN = some (Res.nrm ⟨.int .i64 (roO ev now es 0 none), noneL (refB es), []⟩) := by
  intro es h hk
  rcases es with _ | ⟨a0, _ | ⟨a1, _ | ⟨a2, _ | ⟨a3, _ | ⟨a4, _ | ⟨f, l⟩⟩⟩⟩⟩⟩
  · simp at h
  · simp at h
  · simp at h
  · simp at h
  · simp at h
  · exact ro_ans own ev now a0 a1 a2 a3 a4 (hk _ (by simp)) (hk _ (by simp)) (hk _ (by simp)) (hk _ (by simp)) (hk _ (by simp))
  · simp at h
theorem rh4_all (own : Ck) (ev now : Int) (s : Ste) : ∀ es : RTab, es.length = 5 → Tree.denN (rhF [rhFi own ev es s (-1), rhOv own ev now es (-1)] [refV own ev es, s.v, .int .i64 now] (refB es)) = Tree.denN (rhT4 own ev now es s) := by
  intro es h
  rcases es with _ | ⟨a0, _ | ⟨a1, _ | ⟨a2, _ | ⟨a3, _ | ⟨a4, _ | ⟨f, l⟩⟩⟩⟩⟩⟩
  · simp at h
  · simp at h
  · simp at h
  · simp at h
  · simp at h
  · exact rh4 own ev now s a0 a1 a2 a3 a4
  · simp at h
theorem fi_or (own : Ck) (ev : Int) (es : RTab) (hn : es.length ≤ 5) (s : Ste) (k : Int) (hk : optI (rFind s.snd es 0) = k) : SpecOK P 28 (rhFi own ev es s k).2 := by
  subst hk
  exact or_ok fi_ok (fi_ans own ev s.snd es hn)
/-- Hear's answer. -/
theorem rhe_ans (own : Ck) (ev now : Int) (s : Ste) (es : RTab) (hn : es.length ≤ 5) (hk : okT es) : ∃ sp, SpecOK P 27 sp ∧ (sp [refV own ev es, s.v, .int .i64 now] (refB es)).denN = some (Res.nrm ((rHear own ev es s now).1.res own ev es (rHear own ev es s now).2)) := by
  have hF : ∀ {G : List (Nat × Rx.Spec)}, GammaOK P G → SpecOK P 27 (rhF G) := fun hG => inl_ok hG hm Try.func27 (by kernel_rfl) (LoopsOK.nil (by kernel_rfl))
  unfold rHear
  cases hf : rFind s.snd es 0 with
  | some k =>
    obtain ⟨_, h2, e, he, _⟩ := rFind_lt hf
    have hkl : k < es.length := by omega
    have hok : okE (es.getD k default).len (es.getD k default).ts = true := by
      rw [List.getD_eq_getElem?_getD]
      rw [show k - 0 = k from rfl] at he
      rw [he]
      exact hk _ (List.mem_of_getElem? he)
    have hle : (es.eraseIdx k).length ≤ 4 := by
      rw [List.length_eraseIdx_of_lt hkl]
      omega
    have hj := (rPlace_le s.snd (es.eraseIdx k) 0).2
    rw [List.length_eraseIdx_of_lt hkl] at hj
    have hG : GammaOK P [rhFi own ev es s (k : Int), (30, rlS), rhWo own ev es k, rhWt own ev (es.eraseIdx k) (reE s now (es.getD k default)) (rPlace s.snd (es.eraseIdx k) 0)] :=
      .cons (fi_or own ev es hn s k (by rw [hf]; rfl)) (.cons rl_ok (.cons (or_ok wo_ok (wo_ans own ev k es hn hkl)) (.cons (or_ok wt_ok (wt_ans own ev (reE s now (es.getD k default)) _ hle)) (.nil P))))
    refine ⟨_, hF hG, (rh1_all own ev now s k _ es hn hkl (by omega)).trans ((rhT1_den hok).trans ?_)⟩
    cases badB own s now with
    | true => rfl
    | false =>
      dsimp only
      cases decide (lastT (es.getD k default).ts > now) <;> rfl
  | none =>
    cases hb : Nat.ble 5 es.length with
    | false =>
      have hl : es.length ≤ 4 := by
        rcases Nat.lt_or_ge es.length 5 with h | h
        · omega
        · rw [Nat.ble_eq.mpr h] at hb; cases hb
      have hj := (rPlace_le s.snd es 0).2
      have hG : GammaOK P [rhFi own ev es s (-1), rhWt own ev es (nwE s now) (rPlace s.snd es 0)] :=
        .cons (fi_or own ev es hn s (-1) (by rw [hf]; rfl)) (.cons (or_ok wt_ok (wt_ans own ev (nwE s now) es hl)) (.nil P))
      refine ⟨_, hF hG, (rh2_all own ev now s _ es hl (by omega)).trans (rhT2_den.trans ?_)⟩
      cases badB own s now <;> rfl
    | true =>
      have hl : es.length = 5 := by
        have := Nat.le_of_ble_eq_true hb
        omega
      obtain ⟨so, hso, hden⟩ := roO_all (own := own) (ev := ev) (now := now) hl hk
      have hOv : ∀ o, roO ev now es 0 none = o → SpecOK P 37 (rhOv own ev now es o).2 := by
        intro o ho
        rw [ho] at hden
        exact or_ok hso hden
      rcases roO_cases ev now es 0 none with h | ⟨h1, h2⟩
      · have h : roO ev now es 0 none = -1 := h
        have hG : GammaOK P [rhFi own ev es s (-1), rhOv own ev now es (-1)] := .cons (fi_or own ev es hn s (-1) (by rw [hf]; rfl)) (.cons (hOv _ h) (.nil P))
        refine ⟨_, hF hG, (rh4_all own ev now s es hl).trans (rhT4_den.trans ?_)⟩
        rw [h]
        cases badB own s now <;> rfl
      · obtain ⟨o, ho⟩ : ∃ o : Nat, roO ev now es 0 none = (o : Int) := ⟨(roO ev now es 0 none).toNat, by omega⟩
        rw [ho] at h2
        have hol : o < es.length := by omega
        have hle : (es.eraseIdx o).length ≤ 4 := by
          rw [List.length_eraseIdx_of_lt hol]
          omega
        have hj := (rPlace_le s.snd (es.eraseIdx o) 0).2
        rw [List.length_eraseIdx_of_lt hol] at hj
        have hG : GammaOK P [rhFi own ev es s (-1), rhOv own ev now es (o : Int), rhWo own ev es o, rhWt own ev (es.eraseIdx o) (nwE s now) (rPlace s.snd (es.eraseIdx o) 0)] :=
          .cons (fi_or own ev es hn s (-1) (by rw [hf]; rfl)) (.cons (hOv _ ho) (.cons (or_ok wo_ok (wo_ans own ev o es hn hol)) (.cons (or_ok wt_ok (wt_ans own ev (nwE s now) _ hle)) (.nil P))))
        refine ⟨_, hF hG, (rh3_all own ev now s o _ es hl (by omega) (by omega)).trans (rhT3_den.trans ?_)⟩
        rw [ho, decide_eq_false (show ¬ (o : Int) < 0 by omega), Int.toNat_natCast]
        cases badB own s now <;> rfl
/-- Is what is written such as a table of so many entries allows? -/
def RUp.okR (n : Nat) : RUp → Prop
  | .keep => True
  | .ins none j _ => n ≤ 4 ∧ j ≤ n
  | .ins (some k) j _ => k < n ∧ j < n
  | .drop j => j < n
  | .clear => True
theorem rHear_okR (own : Ck) (ev : Int) (es : RTab) (s : Ste) (now : Int) (hn : es.length ≤ 5) : (rHear own ev es s now).1.okR es.length := by
  unfold rHear
  cases badB own s now with
  | true => trivial
  | false =>
    cases hf : rFind s.snd es 0 with
    | some k =>
      obtain ⟨_, h2, _⟩ := rFind_lt hf
      have hkl : k < es.length := by omega
      have hj := (rPlace_le s.snd (es.eraseIdx k) 0).2
      rw [List.length_eraseIdx_of_lt hkl] at hj
      dsimp only
      cases decide (lastT (es.getD k default).ts > now) with
      | true => trivial
      | false => exact ⟨hkl, by omega⟩
    | none =>
      have hj := (rPlace_le s.snd es 0).2
      dsimp only
      cases hb : Nat.ble 5 es.length with
      | false =>
        have hl : es.length ≤ 4 := by
          rcases Nat.lt_or_ge es.length 5 with h | h
          · omega
          · rw [Nat.ble_eq.mpr h] at hb; cases hb
        exact ⟨hl, by omega⟩
      | true =>
        dsimp only
        cases hd : decide (roO ev now es 0 none < 0) with
        | true => trivial
        | false =>
          simp only [decide_eq_false_iff_not] at hd
          rcases roO_cases ev now es 0 none with h | ⟨h1, h2⟩
          · have h : roO ev now es 0 none = -1 := h
            omega
          · have hol : (roO ev now es 0 none).toNat < es.length := by omega
            have hj := (rPlace_le s.snd (es.eraseIdx (roO ev now es 0 none).toNat) 0).2
            rw [List.length_eraseIdx_of_lt hol] at hj
            exact ⟨hol, by omega⟩
/-- Do's answer. -/
theorem rdo_ans (own : Ck) (ev : Int) (o : Opp) (es : RTab) (hn : es.length ≤ 5) (hk : okT es) : ∃ sp, SpecOK P 16 sp ∧ (sp [refV own ev es, o.v] (refB es)).denN = some (Res.nrm ((rDo own ev es o).1.res own ev es (rDo own ev es o).2)) := by
  have hF : ∀ {G : List (Nat × Rx.Spec)}, GammaOK P G → SpecOK P 16 (rdF G) := fun hG => inl_ok hG hm Try.func16 (by kernel_rfl) (LoopsOK.nil (by kernel_rfl))
  have hQ : ∀ (A : List V) (B : List Blk) (R : Res), (q A B (.leaf R)).denN = some (Res.nrm R) := fun A B R => by
    rw [q_den]
    rfl
  unfold rDo
  cases h0 : o.k == 0 with
  | true =>
    dsimp only
    obtain ⟨sp, hsp, hden⟩ := rhe_ans own ev o.now o.s es hn hk
    have hu := rHear_okR own ev es o.s o.now hn
    have hG : GammaOK P [rdH own ev es o ((rHear own ev es o.s o.now).1.res own ev es (rHear own ev es o.s o.now).2)] := .cons (or_ok hsp hden) (.nil P)
    refine ⟨_, hF hG, ?_⟩
    have fin : ∀ R : Res, Tree.denN (rdT own ev es o (rdQ own ev es o R) .fail) = some (Res.nrm R) := by
      intro R
      unfold rdT
      rw [h0]
      exact hQ _ _ R
    cases hr : (rHear own ev es o.s o.now).1 with
    | keep => exact (rdn_all own ev o _ es hn).trans (fin _)
    | clear =>
      exfalso
      unfold rHear at hr
      repeat' (first | (cases hr; done) | split at hr)
    | drop j =>
      exfalso
      unfold rHear at hr
      repeat' (first | (cases hr; done) | split at hr)
    | ins k j e =>
      rw [hr] at hu
      cases k with
      | none => exact (rdhn_all own ev o e _ j es hu.1 hu.2).trans (fin _)
      | some k => exact (rdhs_all own ev o e _ k j es hn hu.1 hu.2).trans (fin _)
  | false =>
    cases h1 : o.k == 1 with
    | true =>
      dsimp only
      cases hf : rFind o.s.snd es 0 with
      | none =>
        have hG : GammaOK P [rhFi own ev es o.s (-1)] := .cons (fi_or own ev es hn o.s (-1) (by rw [hf]; rfl)) (.nil P)
        refine ⟨_, hF hG, (rdf_all own ev o es hn).trans ?_⟩
        unfold rdT
        rw [h0, h1]
        exact hQ _ _ _
      | some k =>
        obtain ⟨_, h2, _⟩ := rFind_lt hf
        have hkl : k < es.length := by omega
        have hG : GammaOK P [rhFi own ev es o.s (k : Int), rhWo own ev es k] := .cons (fi_or own ev es hn o.s k (by rw [hf]; rfl)) (.cons (or_ok wo_ok (wo_ans own ev k es hn hkl)) (.nil P))
        refine ⟨_, hF hG, (rdw_all own ev o k es hn hkl).trans ?_⟩
        unfold rdT
        rw [h0, h1]
        show (q _ _ (q _ _ (.leaf _))).denN = _
        rw [q_den]
        exact hQ _ _ _
    | false =>
      refine ⟨_, hF (GammaOK.nil P), (rdx_all own ev o es hn).trans ?_⟩
      unfold rdT
      rw [h0, h1]
      show (Tree.ite (o.k == 2) _ _ : Tree Res).denN = _
      rw [denN_ite]
      cases o.k == 2 <;> rfl
end Go.Proofs.Ytgdalboilghciaa
