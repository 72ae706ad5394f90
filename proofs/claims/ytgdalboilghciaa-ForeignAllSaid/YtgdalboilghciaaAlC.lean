/- Layer 8: the reference: who is heard again, in small tables. The conditions stand in the specifications. -/
import Derived.Test.YtgdalboilghciaaAlB
set_option linter.unusedSimpArgs false
set_option linter.unusedVariables false
set_option linter.unnecessarySimpa false
set_option linter.unusedSectionVars false
set_option maxRecDepth 100000
set_option linter.unusedSimpArgs false
set_option linter.unusedVariables false
namespace Go.Proofs.Ytgdalboilghciaa
open Go.Rx
theorem rh1_1_0_0 (own : Ck) (ev now : Int) (s : Ste) (a0 : RefE) : Tree.denN (rhF [rhFi own ev [a0] s 0, (30, rlS), rhWo own ev [a0] 0, rhWt own ev [] (reE s now a0) 0] [refV own ev [a0], s.v, .int .i64 now] (refB [a0])) = Tree.denN (rhT1 own ev now [a0] s 0 0 a0 []) := by
  kernel_rfl
theorem rh1_2_0_0 (own : Ck) (ev now : Int) (s : Ste) (a0 a1 : RefE) : Tree.denN (rhF [rhFi own ev [a0, a1] s 0, (30, rlS), rhWo own ev [a0, a1] 0, rhWt own ev [a1] (reE s now a0) 0] [refV own ev [a0, a1], s.v, .int .i64 now] (refB [a0, a1])) = Tree.denN (rhT1 own ev now [a0, a1] s 0 0 a0 [a1]) := by
  kernel_rfl
theorem rh1_2_0_1 (own : Ck) (ev now : Int) (s : Ste) (a0 a1 : RefE) : Tree.denN (rhF [rhFi own ev [a0, a1] s 0, (30, rlS), rhWo own ev [a0, a1] 0, rhWt own ev [a1] (reE s now a0) 1] [refV own ev [a0, a1], s.v, .int .i64 now] (refB [a0, a1])) = Tree.denN (rhT1 own ev now [a0, a1] s 0 1 a0 [a1]) := by
  kernel_rfl
theorem rh1_2_1_1 (own : Ck) (ev now : Int) (s : Ste) (a0 a1 : RefE) : Tree.denN (rhF [rhFi own ev [a0, a1] s 1, (30, rlS), rhWo own ev [a0, a1] 1, rhWt own ev [a0] (reE s now a1) 1] [refV own ev [a0, a1], s.v, .int .i64 now] (refB [a0, a1])) = Tree.denN (rhT1 own ev now [a0, a1] s 1 1 a1 [a0]) := by
  kernel_rfl
theorem rh1_3_0_0 (own : Ck) (ev now : Int) (s : Ste) (a0 a1 a2 : RefE) : Tree.denN (rhF [rhFi own ev [a0, a1, a2] s 0, (30, rlS), rhWo own ev [a0, a1, a2] 0, rhWt own ev [a1, a2] (reE s now a0) 0] [refV own ev [a0, a1, a2], s.v, .int .i64 now] (refB [a0, a1, a2])) = Tree.denN (rhT1 own ev now [a0, a1, a2] s 0 0 a0 [a1, a2]) := by
  kernel_rfl
theorem rh1_3_0_1 (own : Ck) (ev now : Int) (s : Ste) (a0 a1 a2 : RefE) : Tree.denN (rhF [rhFi own ev [a0, a1, a2] s 0, (30, rlS), rhWo own ev [a0, a1, a2] 0, rhWt own ev [a1, a2] (reE s now a0) 1] [refV own ev [a0, a1, a2], s.v, .int .i64 now] (refB [a0, a1, a2])) = Tree.denN (rhT1 own ev now [a0, a1, a2] s 0 1 a0 [a1, a2]) := by
  kernel_rfl
theorem rh1_3_0_2 (own : Ck) (ev now : Int) (s : Ste) (a0 a1 a2 : RefE) : Tree.denN (rhF [rhFi own ev [a0, a1, a2] s 0, (30, rlS), rhWo own ev [a0, a1, a2] 0, rhWt own ev [a1, a2] (reE s now a0) 2] [refV own ev [a0, a1, a2], s.v, .int .i64 now] (refB [a0, a1, a2])) = Tree.denN (rhT1 own ev now [a0, a1, a2] s 0 2 a0 [a1, a2]) := by
  kernel_rfl
theorem rh1_3_1_0 (own : Ck) (ev now : Int) (s : Ste) (a0 a1 a2 : RefE) : Tree.denN (rhF [rhFi own ev [a0, a1, a2] s 1, (30, rlS), rhWo own ev [a0, a1, a2] 1, rhWt own ev [a0, a2] (reE s now a1) 0] [refV own ev [a0, a1, a2], s.v, .int .i64 now] (refB [a0, a1, a2])) = Tree.denN (rhT1 own ev now [a0, a1, a2] s 1 0 a1 [a0, a2]) := by
  kernel_rfl
theorem rh1_3_1_1 (own : Ck) (ev now : Int) (s : Ste) (a0 a1 a2 : RefE) : Tree.denN (rhF [rhFi own ev [a0, a1, a2] s 1, (30, rlS), rhWo own ev [a0, a1, a2] 1, rhWt own ev [a0, a2] (reE s now a1) 1] [refV own ev [a0, a1, a2], s.v, .int .i64 now] (refB [a0, a1, a2])) = Tree.denN (rhT1 own ev now [a0, a1, a2] s 1 1 a1 [a0, a2]) := by
  kernel_rfl
theorem rh1_3_1_2 (own : Ck) (ev now : Int) (s : Ste) (a0 a1 a2 : RefE) : Tree.denN (rhF [rhFi own ev [a0, a1, a2] s 1, (30, rlS), rhWo own ev [a0, a1, a2] 1, rhWt own ev [a0, a2] (reE s now a1) 2] [refV own ev [a0, a1, a2], s.v, .int .i64 now] (refB [a0, a1, a2])) = Tree.denN (rhT1 own ev now [a0, a1, a2] s 1 2 a1 [a0, a2]) := by
  kernel_rfl
theorem rh1_3_2_0 (own : Ck) (ev now : Int) (s : Ste) (a0 a1 a2 : RefE) : Tree.denN (rhF [rhFi own ev [a0, a1, a2] s 2, (30, rlS), rhWo own ev [a0, a1, a2] 2, rhWt own ev [a0, a1] (reE s now a2) 0] [refV own ev [a0, a1, a2], s.v, .int .i64 now] (refB [a0, a1, a2])) = Tree.denN (rhT1 own ev now [a0, a1, a2] s 2 0 a2 [a0, a1]) := by
  kernel_rfl
theorem rh1_3_2_1 (own : Ck) (ev now : Int) (s : Ste) (a0 a1 a2 : RefE) : Tree.denN (rhF [rhFi own ev [a0, a1, a2] s 2, (30, rlS), rhWo own ev [a0, a1, a2] 2, rhWt own ev [a0, a1] (reE s now a2) 1] [refV own ev [a0, a1, a2], s.v, .int .i64 now] (refB [a0, a1, a2])) = Tree.denN (rhT1 own ev now [a0, a1, a2] s 2 1 a2 [a0, a1]) := by
  kernel_rfl
theorem rh1_3_2_2 (own : Ck) (ev now : Int) (s : Ste) (a0 a1 a2 : RefE) : Tree.denN (rhF [rhFi own ev [a0, a1, a2] s 2, (30, rlS), rhWo own ev [a0, a1, a2] 2, rhWt own ev [a0, a1] (reE s now a2) 2] [refV own ev [a0, a1, a2], s.v, .int .i64 now] (refB [a0, a1, a2])) = Tree.denN (rhT1 own ev now [a0, a1, a2] s 2 2 a2 [a0, a1]) := by
  kernel_rfl
theorem rh1_4_0_0 (own : Ck) (ev now : Int) (s : Ste) (a0 a1 a2 a3 : RefE) : Tree.denN (rhF [rhFi own ev [a0, a1, a2, a3] s 0, (30, rlS), rhWo own ev [a0, a1, a2, a3] 0, rhWt own ev [a1, a2, a3] (reE s now a0) 0] [refV own ev [a0, a1, a2, a3], s.v, .int .i64 now] (refB [a0, a1, a2, a3])) = Tree.denN (rhT1 own ev now [a0, a1, a2, a3] s 0 0 a0 [a1, a2, a3]) := by
  kernel_rfl
theorem rh1_4_0_1 (own : Ck) (ev now : Int) (s : Ste) (a0 a1 a2 a3 : RefE) : Tree.denN (rhF [rhFi own ev [a0, a1, a2, a3] s 0, (30, rlS), rhWo own ev [a0, a1, a2, a3] 0, rhWt own ev [a1, a2, a3] (reE s now a0) 1] [refV own ev [a0, a1, a2, a3], s.v, .int .i64 now] (refB [a0, a1, a2, a3])) = Tree.denN (rhT1 own ev now [a0, a1, a2, a3] s 0 1 a0 [a1, a2, a3]) := by
  kernel_rfl
theorem rh1_4_0_2 (own : Ck) (ev now : Int) (s : Ste) (a0 a1 a2 a3 : RefE) : Tree.denN (rhF [rhFi own ev [a0, a1, a2, a3] s 0, (30, rlS), rhWo own ev [a0, a1, a2, a3] 0, rhWt own ev [a1, a2, a3] (reE s now a0) 2] [refV own ev [a0, a1, a2, a3], s.v, .int .i64 now] (refB [a0, a1, a2, a3])) = Tree.denN (rhT1 own ev now [a0, a1, a2, a3] s 0 2 a0 [a1, a2, a3]) := by
  kernel_rfl
theorem rh1_4_0_3 (own : Ck) (ev now : Int) (s : Ste) (a0 a1 a2 a3 : RefE) : Tree.denN (rhF [rhFi own ev [a0, a1, a2, a3] s 0, (30, rlS), rhWo own ev [a0, a1, a2, a3] 0, rhWt own ev [a1, a2, a3] (reE s now a0) 3] [refV own ev [a0, a1, a2, a3], s.v, .int .i64 now] (refB [a0, a1, a2, a3])) = Tree.denN (rhT1 own ev now [a0, a1, a2, a3] s 0 3 a0 [a1, a2, a3]) := by
  kernel_rfl
theorem rh1_4_1_0 (own : Ck) (ev now : Int) (s : Ste) (a0 a1 a2 a3 : RefE) : Tree.denN (rhF [rhFi own ev [a0, a1, a2, a3] s 1, (30, rlS), rhWo own ev [a0, a1, a2, a3] 1, rhWt own ev [a0, a2, a3] (reE s now a1) 0] [refV own ev [a0, a1, a2, a3], s.v, .int .i64 now] (refB [a0, a1, a2, a3])) = Tree.denN (rhT1 own ev now [a0, a1, a2, a3] s 1 0 a1 [a0, a2, a3]) := by
  kernel_rfl
theorem rh1_4_1_1 (own : Ck) (ev now : Int) (s : Ste) (a0 a1 a2 a3 : RefE) : Tree.denN (rhF [rhFi own ev [a0, a1, a2, a3] s 1, (30, rlS), rhWo own ev [a0, a1, a2, a3] 1, rhWt own ev [a0, a2, a3] (reE s now a1) 1] [refV own ev [a0, a1, a2, a3], s.v, .int .i64 now] (refB [a0, a1, a2, a3])) = Tree.denN (rhT1 own ev now [a0, a1, a2, a3] s 1 1 a1 [a0, a2, a3]) := by
  kernel_rfl
theorem rh1_4_1_2 (own : Ck) (ev now : Int) (s : Ste) (a0 a1 a2 a3 : RefE) : Tree.denN (rhF [rhFi own ev [a0, a1, a2, a3] s 1, (30, rlS), rhWo own ev [a0, a1, a2, a3] 1, rhWt own ev [a0, a2, a3] (reE s now a1) 2] [refV own ev [a0, a1, a2, a3], s.v, .int .i64 now] (refB [a0, a1, a2, a3])) = Tree.denN (rhT1 own ev now [a0, a1, a2, a3] s 1 2 a1 [a0, a2, a3]) := by
  kernel_rfl
theorem rh1_4_1_3 (own : Ck) (ev now : Int) (s : Ste) (a0 a1 a2 a3 : RefE) : Tree.denN (rhF [rhFi own ev [a0, a1, a2, a3] s 1, (30, rlS), rhWo own ev [a0, a1, a2, a3] 1, rhWt own ev [a0, a2, a3] (reE s now a1) 3] [refV own ev [a0, a1, a2, a3], s.v, .int .i64 now] (refB [a0, a1, a2, a3])) = Tree.denN (rhT1 own ev now [a0, a1, a2, a3] s 1 3 a1 [a0, a2, a3]) := by
  kernel_rfl
theorem rh1_4_2_0 (own : Ck) (ev now : Int) (s : Ste) (a0 a1 a2 a3 : RefE) : Tree.denN (rhF [rhFi own ev [a0, a1, a2, a3] s 2, (30, rlS), rhWo own ev [a0, a1, a2, a3] 2, rhWt own ev [a0, a1, a3] (reE s now a2) 0] [refV own ev [a0, a1, a2, a3], s.v, .int .i64 now] (refB [a0, a1, a2, a3])) = Tree.denN (rhT1 own ev now [a0, a1, a2, a3] s 2 0 a2 [a0, a1, a3]) := by
  kernel_rfl
theorem rh1_4_2_1 (own : Ck) (ev now : Int) (s : Ste) (a0 a1 a2 a3 : RefE) : Tree.denN (rhF [rhFi own ev [a0, a1, a2, a3] s 2, (30, rlS), rhWo own ev [a0, a1, a2, a3] 2, rhWt own ev [a0, a1, a3] (reE s now a2) 1] [refV own ev [a0, a1, a2, a3], s.v, .int .i64 now] (refB [a0, a1, a2, a3])) = Tree.denN (rhT1 own ev now [a0, a1, a2, a3] s 2 1 a2 [a0, a1, a3]) := by
  kernel_rfl
theorem rh1_4_2_2 (own : Ck) (ev now : Int) (s : Ste) (a0 a1 a2 a3 : RefE) : Tree.denN (rhF [rhFi own ev [a0, a1, a2, a3] s 2, (30, rlS), rhWo own ev [a0, a1, a2, a3] 2, rhWt own ev [a0, a1, a3] (reE s now a2) 2] [refV own ev [a0, a1, a2, a3], s.v, .int .i64 now] (refB [a0, a1, a2, a3])) = Tree.denN (rhT1 own ev now [a0, a1, a2, a3] s 2 2 a2 [a0, a1, a3]) := by
  kernel_rfl
theorem rh1_4_2_3 (own : Ck) (ev now : Int) (s : Ste) (a0 a1 a2 a3 : RefE) : Tree.denN (rhF [rhFi own ev [a0, a1, a2, a3] s 2, (30, rlS), rhWo own ev [a0, a1, a2, a3] 2, rhWt own ev [a0, a1, a3] (reE s now a2) 3] [refV own ev [a0, a1, a2, a3], s.v, .int .i64 now] (refB [a0, a1, a2, a3])) = Tree.denN (rhT1 own ev now [a0, a1, a2, a3] s 2 3 a2 [a0, a1, a3]) := by
  kernel_rfl
theorem rh1_4_3_0 (own : Ck) (ev now : Int) (s : Ste) (a0 a1 a2 a3 : RefE) : Tree.denN (rhF [rhFi own ev [a0, a1, a2, a3] s 3, (30, rlS), rhWo own ev [a0, a1, a2, a3] 3, rhWt own ev [a0, a1, a2] (reE s now a3) 0] [refV own ev [a0, a1, a2, a3], s.v, .int .i64 now] (refB [a0, a1, a2, a3])) = Tree.denN (rhT1 own ev now [a0, a1, a2, a3] s 3 0 a3 [a0, a1, a2]) := by
  kernel_rfl
theorem rh1_4_3_1 (own : Ck) (ev now : Int) (s : Ste) (a0 a1 a2 a3 : RefE) : Tree.denN (rhF [rhFi own ev [a0, a1, a2, a3] s 3, (30, rlS), rhWo own ev [a0, a1, a2, a3] 3, rhWt own ev [a0, a1, a2] (reE s now a3) 1] [refV own ev [a0, a1, a2, a3], s.v, .int .i64 now] (refB [a0, a1, a2, a3])) = Tree.denN (rhT1 own ev now [a0, a1, a2, a3] s 3 1 a3 [a0, a1, a2]) := by
  kernel_rfl
theorem rh1_4_3_2 (own : Ck) (ev now : Int) (s : Ste) (a0 a1 a2 a3 : RefE) : Tree.denN (rhF [rhFi own ev [a0, a1, a2, a3] s 3, (30, rlS), rhWo own ev [a0, a1, a2, a3] 3, rhWt own ev [a0, a1, a2] (reE s now a3) 2] [refV own ev [a0, a1, a2, a3], s.v, .int .i64 now] (refB [a0, a1, a2, a3])) = Tree.denN (rhT1 own ev now [a0, a1, a2, a3] s 3 2 a3 [a0, a1, a2]) := by
  kernel_rfl
theorem rh1_4_3_3 (own : Ck) (ev now : Int) (s : Ste) (a0 a1 a2 a3 : RefE) : Tree.denN (rhF [rhFi own ev [a0, a1, a2, a3] s 3, (30, rlS), rhWo own ev [a0, a1, a2, a3] 3, rhWt own ev [a0, a1, a2] (reE s now a3) 3] [refV own ev [a0, a1, a2, a3], s.v, .int .i64 now] (refB [a0, a1, a2, a3])) = Tree.denN (rhT1 own ev now [a0, a1, a2, a3] s 3 3 a3 [a0, a1, a2]) := by
  kernel_rfl
end Go.Proofs.Ytgdalboilghciaa

set_option maxRecDepth 100000
set_option linter.unusedSimpArgs false
set_option linter.unusedVariables false
namespace Go.Proofs.Ytgdalboilghciaa
open Go.Rx
theorem rh2_0_0 (own : Ck) (ev now : Int) (s : Ste)  : Tree.denN (rhF [rhFi own ev [] s (-1), rhWt own ev [] (nwE s now) 0] [refV own ev [], s.v, .int .i64 now] (refB [])) = Tree.denN (rhT2 own ev now [] s 0) := by
  kernel_rfl
theorem rh2_1_0 (own : Ck) (ev now : Int) (s : Ste) (a0 : RefE) : Tree.denN (rhF [rhFi own ev [a0] s (-1), rhWt own ev [a0] (nwE s now) 0] [refV own ev [a0], s.v, .int .i64 now] (refB [a0])) = Tree.denN (rhT2 own ev now [a0] s 0) := by
  kernel_rfl
theorem rh2_1_1 (own : Ck) (ev now : Int) (s : Ste) (a0 : RefE) : Tree.denN (rhF [rhFi own ev [a0] s (-1), rhWt own ev [a0] (nwE s now) 1] [refV own ev [a0], s.v, .int .i64 now] (refB [a0])) = Tree.denN (rhT2 own ev now [a0] s 1) := by
  kernel_rfl
theorem rh2_2_0 (own : Ck) (ev now : Int) (s : Ste) (a0 a1 : RefE) : Tree.denN (rhF [rhFi own ev [a0, a1] s (-1), rhWt own ev [a0, a1] (nwE s now) 0] [refV own ev [a0, a1], s.v, .int .i64 now] (refB [a0, a1])) = Tree.denN (rhT2 own ev now [a0, a1] s 0) := by
  kernel_rfl
theorem rh2_2_1 (own : Ck) (ev now : Int) (s : Ste) (a0 a1 : RefE) : Tree.denN (rhF [rhFi own ev [a0, a1] s (-1), rhWt own ev [a0, a1] (nwE s now) 1] [refV own ev [a0, a1], s.v, .int .i64 now] (refB [a0, a1])) = Tree.denN (rhT2 own ev now [a0, a1] s 1) := by
  kernel_rfl
theorem rh2_2_2 (own : Ck) (ev now : Int) (s : Ste) (a0 a1 : RefE) : Tree.denN (rhF [rhFi own ev [a0, a1] s (-1), rhWt own ev [a0, a1] (nwE s now) 2] [refV own ev [a0, a1], s.v, .int .i64 now] (refB [a0, a1])) = Tree.denN (rhT2 own ev now [a0, a1] s 2) := by
  kernel_rfl
theorem rh2_3_0 (own : Ck) (ev now : Int) (s : Ste) (a0 a1 a2 : RefE) : Tree.denN (rhF [rhFi own ev [a0, a1, a2] s (-1), rhWt own ev [a0, a1, a2] (nwE s now) 0] [refV own ev [a0, a1, a2], s.v, .int .i64 now] (refB [a0, a1, a2])) = Tree.denN (rhT2 own ev now [a0, a1, a2] s 0) := by
  kernel_rfl
theorem rh2_3_1 (own : Ck) (ev now : Int) (s : Ste) (a0 a1 a2 : RefE) : Tree.denN (rhF [rhFi own ev [a0, a1, a2] s (-1), rhWt own ev [a0, a1, a2] (nwE s now) 1] [refV own ev [a0, a1, a2], s.v, .int .i64 now] (refB [a0, a1, a2])) = Tree.denN (rhT2 own ev now [a0, a1, a2] s 1) := by
  kernel_rfl
theorem rh2_3_2 (own : Ck) (ev now : Int) (s : Ste) (a0 a1 a2 : RefE) : Tree.denN (rhF [rhFi own ev [a0, a1, a2] s (-1), rhWt own ev [a0, a1, a2] (nwE s now) 2] [refV own ev [a0, a1, a2], s.v, .int .i64 now] (refB [a0, a1, a2])) = Tree.denN (rhT2 own ev now [a0, a1, a2] s 2) := by
  kernel_rfl
theorem rh2_3_3 (own : Ck) (ev now : Int) (s : Ste) (a0 a1 a2 : RefE) : Tree.denN (rhF [rhFi own ev [a0, a1, a2] s (-1), rhWt own ev [a0, a1, a2] (nwE s now) 3] [refV own ev [a0, a1, a2], s.v, .int .i64 now] (refB [a0, a1, a2])) = Tree.denN (rhT2 own ev now [a0, a1, a2] s 3) := by
  kernel_rfl
theorem rh2_4_0 (own : Ck) (ev now : Int) (s : Ste) (a0 a1 a2 a3 : RefE) : Tree.denN (rhF [rhFi own ev [a0, a1, a2, a3] s (-1), rhWt own ev [a0, a1, a2, a3] (nwE s now) 0] [refV own ev [a0, a1, a2, a3], s.v, .int .i64 now] (refB [a0, a1, a2, a3])) = Tree.denN (rhT2 own ev now [a0, a1, a2, a3] s 0) := by
  kernel_rfl
theorem rh2_4_1 (own : Ck) (ev now : Int) (s : Ste) (a0 a1 a2 a3 : RefE) : Tree.denN (rhF [rhFi own ev [a0, a1, a2, a3] s (-1), rhWt own ev [a0, a1, a2, a3] (nwE s now) 1] [refV own ev [a0, a1, a2, a3], s.v, .int .i64 now] (refB [a0, a1, a2, a3])) = Tree.denN (rhT2 own ev now [a0, a1, a2, a3] s 1) := by
  kernel_rfl
theorem rh2_4_2 (own : Ck) (ev now : Int) (s : Ste) (a0 a1 a2 a3 : RefE) : Tree.denN (rhF [rhFi own ev [a0, a1, a2, a3] s (-1), rhWt own ev [a0, a1, a2, a3] (nwE s now) 2] [refV own ev [a0, a1, a2, a3], s.v, .int .i64 now] (refB [a0, a1, a2, a3])) = Tree.denN (rhT2 own ev now [a0, a1, a2, a3] s 2) := by
  kernel_rfl
theorem rh2_4_3 (own : Ck) (ev now : Int) (s : Ste) (a0 a1 a2 a3 : RefE) : Tree.denN (rhF [rhFi own ev [a0, a1, a2, a3] s (-1), rhWt own ev [a0, a1, a2, a3] (nwE s now) 3] [refV own ev [a0, a1, a2, a3], s.v, .int .i64 now] (refB [a0, a1, a2, a3])) = Tree.denN (rhT2 own ev now [a0, a1, a2, a3] s 3) := by
  kernel_rfl
theorem rh2_4_4 (own : Ck) (ev now : Int) (s : Ste) (a0 a1 a2 a3 : RefE) : Tree.denN (rhF [rhFi own ev [a0, a1, a2, a3] s (-1), rhWt own ev [a0, a1, a2, a3] (nwE s now) 4] [refV own ev [a0, a1, a2, a3], s.v, .int .i64 now] (refB [a0, a1, a2, a3])) = Tree.denN (rhT2 own ev now [a0, a1, a2, a3] s 4) := by
  kernel_rfl
theorem rh4 (own : Ck) (ev now : Int) (s : Ste) (a0 a1 a2 a3 a4 : RefE) : Tree.denN (rhF [rhFi own ev [a0, a1, a2, a3, a4] s (-1), rhOv own ev now [a0, a1, a2, a3, a4] (-1)] [refV own ev [a0, a1, a2, a3, a4], s.v, .int .i64 now] (refB [a0, a1, a2, a3, a4])) = Tree.denN (rhT4 own ev now [a0, a1, a2, a3, a4] s) := by
  kernel_rfl
end Go.Proofs.Ytgdalboilghciaa
