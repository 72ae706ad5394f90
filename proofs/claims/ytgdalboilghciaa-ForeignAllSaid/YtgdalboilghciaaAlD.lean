/- Layer 8: the reference: who is heard again, in a full table. The conditions stand in the specifications. -/
import Derived.Test.YtgdalboilghciaaAlB
set_option linter.unusedSimpArgs false
set_option linter.unusedVariables false
set_option linter.unnecessarySimpa false
set_option linter.unusedSectionVars false
set_option maxRecDepth 100000
set_option linter.unusedSimpArgs false
set_option linter.unusedVariables false
namespace Go.Proofs.Ytgdalboilghciaa
open Go.Rx
theorem rh1_5_0_0 (own : Ck) (ev now : Int) (s : Ste) (a0 a1 a2 a3 a4 : RefE) : Tree.denN (rhF [rhFi own ev [a0, a1, a2, a3, a4] s 0, (30, rlS), rhWo own ev [a0, a1, a2, a3, a4] 0, rhWt own ev [a1, a2, a3, a4] (reE s now a0) 0] [refV own ev [a0, a1, a2, a3, a4], s.v, .int .i64 now] (refB [a0, a1, a2, a3, a4])) = Tree.denN (rhT1 own ev now [a0, a1, a2, a3, a4] s 0 0 a0 [a1, a2, a3, a4]) := by
  kernel_rfl
theorem rh1_5_0_1 (own : Ck) (ev now : Int) (s : Ste) (a0 a1 a2 a3 a4 : RefE) : Tree.denN (rhF [rhFi own ev [a0, a1, a2, a3, a4] s 0, (30, rlS), rhWo own ev [a0, a1, a2, a3, a4] 0, rhWt own ev [a1, a2, a3, a4] (reE s now a0) 1] [refV own ev [a0, a1, a2, a3, a4], s.v, .int .i64 now] (refB [a0, a1, a2, a3, a4])) = Tree.denN (rhT1 own ev now [a0, a1, a2, a3, a4] s 0 1 a0 [a1, a2, a3, a4]) := by
  kernel_rfl
theorem rh1_5_0_2 (own : Ck) (ev now : Int) (s : Ste) (a0 a1 a2 a3 a4 : RefE) : Tree.denN (rhF [rhFi own ev [a0, a1, a2, a3, a4] s 0, (30, rlS), rhWo own ev [a0, a1, a2, a3, a4] 0, rhWt own ev [a1, a2, a3, a4] (reE s now a0) 2] [refV own ev [a0, a1, a2, a3, a4], s.v, .int .i64 now] (refB [a0, a1, a2, a3, a4])) = Tree.denN (rhT1 own ev now [a0, a1, a2, a3, a4] s 0 2 a0 [a1, a2, a3, a4]) := by
  kernel_rfl
theorem rh1_5_0_3 (own : Ck) (ev now : Int) (s : Ste) (a0 a1 a2 a3 a4 : RefE) : Tree.denN (rhF [rhFi own ev [a0, a1, a2, a3, a4] s 0, (30, rlS), rhWo own ev [a0, a1, a2, a3, a4] 0, rhWt own ev [a1, a2, a3, a4] (reE s now a0) 3] [refV own ev [a0, a1, a2, a3, a4], s.v, .int .i64 now] (refB [a0, a1, a2, a3, a4])) = Tree.denN (rhT1 own ev now [a0, a1, a2, a3, a4] s 0 3 a0 [a1, a2, a3, a4]) := by
  kernel_rfl
theorem rh1_5_0_4 (own : Ck) (ev now : Int) (s : Ste) (a0 a1 a2 a3 a4 : RefE) : Tree.denN (rhF [rhFi own ev [a0, a1, a2, a3, a4] s 0, (30, rlS), rhWo own ev [a0, a1, a2, a3, a4] 0, rhWt own ev [a1, a2, a3, a4] (reE s now a0) 4] [refV own ev [a0, a1, a2, a3, a4], s.v, .int .i64 now] (refB [a0, a1, a2, a3, a4])) = Tree.denN (rhT1 own ev now [a0, a1, a2, a3, a4] s 0 4 a0 [a1, a2, a3, a4]) := by
  kernel_rfl
theorem rh1_5_1_0 (own : Ck) (ev now : Int) (s : Ste) (a0 a1 a2 a3 a4 : RefE) : Tree.denN (rhF [rhFi own ev [a0, a1, a2, a3, a4] s 1, (30, rlS), rhWo own ev [a0, a1, a2, a3, a4] 1, rhWt own ev [a0, a2, a3, a4] (reE s now a1) 0] [refV own ev [a0, a1, a2, a3, a4], s.v, .int .i64 now] (refB [a0, a1, a2, a3, a4])) = Tree.denN (rhT1 own ev now [a0, a1, a2, a3, a4] s 1 0 a1 [a0, a2, a3, a4]) := by
  kernel_rfl
theorem rh1_5_1_1 (own : Ck) (ev now : Int) (s : Ste) (a0 a1 a2 a3 a4 : RefE) : Tree.denN (rhF [rhFi own ev [a0, a1, a2, a3, a4] s 1, (30, rlS), rhWo own ev [a0, a1, a2, a3, a4] 1, rhWt own ev [a0, a2, a3, a4] (reE s now a1) 1] [refV own ev [a0, a1, a2, a3, a4], s.v, .int .i64 now] (refB [a0, a1, a2, a3, a4])) = Tree.denN (rhT1 own ev now [a0, a1, a2, a3, a4] s 1 1 a1 [a0, a2, a3, a4]) := by
  kernel_rfl
theorem rh1_5_1_2 (own : Ck) (ev now : Int) (s : Ste) (a0 a1 a2 a3 a4 : RefE) : Tree.denN (rhF [rhFi own ev [a0, a1, a2, a3, a4] s 1, (30, rlS), rhWo own ev [a0, a1, a2, a3, a4] 1, rhWt own ev [a0, a2, a3, a4] (reE s now a1) 2] [refV own ev [a0, a1, a2, a3, a4], s.v, .int .i64 now] (refB [a0, a1, a2, a3, a4])) = Tree.denN (rhT1 own ev now [a0, a1, a2, a3, a4] s 1 2 a1 [a0, a2, a3, a4]) := by
  kernel_rfl
theorem rh1_5_1_3 (own : Ck) (ev now : Int) (s : Ste) (a0 a1 a2 a3 a4 : RefE) : Tree.denN (rhF [rhFi own ev [a0, a1, a2, a3, a4] s 1, (30, rlS), rhWo own ev [a0, a1, a2, a3, a4] 1, rhWt own ev [a0, a2, a3, a4] (reE s now a1) 3] [refV own ev [a0, a1, a2, a3, a4], s.v, .int .i64 now] (refB [a0, a1, a2, a3, a4])) = Tree.denN (rhT1 own ev now [a0, a1, a2, a3, a4] s 1 3 a1 [a0, a2, a3, a4]) := by
  kernel_rfl
theorem rh1_5_1_4 (own : Ck) (ev now : Int) (s : Ste) (a0 a1 a2 a3 a4 : RefE) : Tree.denN (rhF [rhFi own ev [a0, a1, a2, a3, a4] s 1, (30, rlS), rhWo own ev [a0, a1, a2, a3, a4] 1, rhWt own ev [a0, a2, a3, a4] (reE s now a1) 4] [refV own ev [a0, a1, a2, a3, a4], s.v, .int .i64 now] (refB [a0, a1, a2, a3, a4])) = Tree.denN (rhT1 own ev now [a0, a1, a2, a3, a4] s 1 4 a1 [a0, a2, a3, a4]) := by
  kernel_rfl
theorem rh1_5_2_0 (own : Ck) (ev now : Int) (s : Ste) (a0 a1 a2 a3 a4 : RefE) : Tree.denN (rhF [rhFi own ev [a0, a1, a2, a3, a4] s 2, (30, rlS), rhWo own ev [a0, a1, a2, a3, a4] 2, rhWt own ev [a0, a1, a3, a4] (reE s now a2) 0] [refV own ev [a0, a1, a2, a3, a4], s.v, .int .i64 now] (refB [a0, a1, a2, a3, a4])) = Tree.denN (rhT1 own ev now [a0, a1, a2, a3, a4] s 2 0 a2 [a0, a1, a3, a4]) := by
  kernel_rfl
theorem rh1_5_2_1 (own : Ck) (ev now : Int) (s : Ste) (a0 a1 a2 a3 a4 : RefE) : Tree.denN (rhF [rhFi own ev [a0, a1, a2, a3, a4] s 2, (30, rlS), rhWo own ev [a0, a1, a2, a3, a4] 2, rhWt own ev [a0, a1, a3, a4] (reE s now a2) 1] [refV own ev [a0, a1, a2, a3, a4], s.v, .int .i64 now] (refB [a0, a1, a2, a3, a4])) = Tree.denN (rhT1 own ev now [a0, a1, a2, a3, a4] s 2 1 a2 [a0, a1, a3, a4]) := by
  kernel_rfl
theorem rh1_5_2_2 (own : Ck) (ev now : Int) (s : Ste) (a0 a1 a2 a3 a4 : RefE) : Tree.denN (rhF [rhFi own ev [a0, a1, a2, a3, a4] s 2, (30, rlS), rhWo own ev [a0, a1, a2, a3, a4] 2, rhWt own ev [a0, a1, a3, a4] (reE s now a2) 2] [refV own ev [a0, a1, a2, a3, a4], s.v, .int .i64 now] (refB [a0, a1, a2, a3, a4])) = Tree.denN (rhT1 own ev now [a0, a1, a2, a3, a4] s 2 2 a2 [a0, a1, a3, a4]) := by
  kernel_rfl
theorem rh1_5_2_3 (own : Ck) (ev now : Int) (s : Ste) (a0 a1 a2 a3 a4 : RefE) : Tree.denN (rhF [rhFi own ev [a0, a1, a2, a3, a4] s 2, (30, rlS), rhWo own ev [a0, a1, a2, a3, a4] 2, rhWt own ev [a0, a1, a3, a4] (reE s now a2) 3] [refV own ev [a0, a1, a2, a3, a4], s.v, .int .i64 now] (refB [a0, a1, a2, a3, a4])) = Tree.denN (rhT1 own ev now [a0, a1, a2, a3, a4] s 2 3 a2 [a0, a1, a3, a4]) := by
  kernel_rfl
theorem rh1_5_2_4 (own : Ck) (ev now : Int) (s : Ste) (a0 a1 a2 a3 a4 : RefE) : Tree.denN (rhF [rhFi own ev [a0, a1, a2, a3, a4] s 2, (30, rlS), rhWo own ev [a0, a1, a2, a3, a4] 2, rhWt own ev [a0, a1, a3, a4] (reE s now a2) 4] [refV own ev [a0, a1, a2, a3, a4], s.v, .int .i64 now] (refB [a0, a1, a2, a3, a4])) = Tree.denN (rhT1 own ev now [a0, a1, a2, a3, a4] s 2 4 a2 [a0, a1, a3, a4]) := by
  kernel_rfl
theorem rh1_5_3_0 (own : Ck) (ev now : Int) (s : Ste) (a0 a1 a2 a3 a4 : RefE) : Tree.denN (rhF [rhFi own ev [a0, a1, a2, a3, a4] s 3, (30, rlS), rhWo own ev [a0, a1, a2, a3, a4] 3, rhWt own ev [a0, a1, a2, a4] (reE s now a3) 0] [refV own ev [a0, a1, a2, a3, a4], s.v, .int .i64 now] (refB [a0, a1, a2, a3, a4])) = Tree.denN (rhT1 own ev now [a0, a1, a2, a3, a4] s 3 0 a3 [a0, a1, a2, a4]) := by
  kernel_rfl
theorem rh1_5_3_1 (own : Ck) (ev now : Int) (s : Ste) (a0 a1 a2 a3 a4 : RefE) : Tree.denN (rhF [rhFi own ev [a0, a1, a2, a3, a4] s 3, (30, rlS), rhWo own ev [a0, a1, a2, a3, a4] 3, rhWt own ev [a0, a1, a2, a4] (reE s now a3) 1] [refV own ev [a0, a1, a2, a3, a4], s.v, .int .i64 now] (refB [a0, a1, a2, a3, a4])) = Tree.denN (rhT1 own ev now [a0, a1, a2, a3, a4] s 3 1 a3 [a0, a1, a2, a4]) := by
  kernel_rfl
theorem rh1_5_3_2 (own : Ck) (ev now : Int) (s : Ste) (a0 a1 a2 a3 a4 : RefE) : Tree.denN (rhF [rhFi own ev [a0, a1, a2, a3, a4] s 3, (30, rlS), rhWo own ev [a0, a1, a2, a3, a4] 3, rhWt own ev [a0, a1, a2, a4] (reE s now a3) 2] [refV own ev [a0, a1, a2, a3, a4], s.v, .int .i64 now] (refB [a0, a1, a2, a3, a4])) = Tree.denN (rhT1 own ev now [a0, a1, a2, a3, a4] s 3 2 a3 [a0, a1, a2, a4]) := by
  kernel_rfl
theorem rh1_5_3_3 (own : Ck) (ev now : Int) (s : Ste) (a0 a1 a2 a3 a4 : RefE) : Tree.denN (rhF [rhFi own ev [a0, a1, a2, a3, a4] s 3, (30, rlS), rhWo own ev [a0, a1, a2, a3, a4] 3, rhWt own ev [a0, a1, a2, a4] (reE s now a3) 3] [refV own ev [a0, a1, a2, a3, a4], s.v, .int .i64 now] (refB [a0, a1, a2, a3, a4])) = Tree.denN (rhT1 own ev now [a0, a1, a2, a3, a4] s 3 3 a3 [a0, a1, a2, a4]) := by
  kernel_rfl
theorem rh1_5_3_4 (own : Ck) (ev now : Int) (s : Ste) (a0 a1 a2 a3 a4 : RefE) : Tree.denN (rhF [rhFi own ev [a0, a1, a2, a3, a4] s 3, (30, rlS), rhWo own ev [a0, a1, a2, a3, a4] 3, rhWt own ev [a0, a1, a2, a4] (reE s now a3) 4] [refV own ev [a0, a1, a2, a3, a4], s.v, .int .i64 now] (refB [a0, a1, a2, a3, a4])) = Tree.denN (rhT1 own ev now [a0, a1, a2, a3, a4] s 3 4 a3 [a0, a1, a2, a4]) := by
  kernel_rfl
theorem rh1_5_4_0 (own : Ck) (ev now : Int) (s : Ste) (a0 a1 a2 a3 a4 : RefE) : Tree.denN (rhF [rhFi own ev [a0, a1, a2, a3, a4] s 4, (30, rlS), rhWo own ev [a0, a1, a2, a3, a4] 4, rhWt own ev [a0, a1, a2, a3] (reE s now a4) 0] [refV own ev [a0, a1, a2, a3, a4], s.v, .int .i64 now] (refB [a0, a1, a2, a3, a4])) = Tree.denN (rhT1 own ev now [a0, a1, a2, a3, a4] s 4 0 a4 [a0, a1, a2, a3]) := by
  kernel_rfl
theorem rh1_5_4_1 (own : Ck) (ev now : Int) (s : Ste) (a0 a1 a2 a3 a4 : RefE) : Tree.denN (rhF [rhFi own ev [a0, a1, a2, a3, a4] s 4, (30, rlS), rhWo own ev [a0, a1, a2, a3, a4] 4, rhWt own ev [a0, a1, a2, a3] (reE s now a4) 1] [refV own ev [a0, a1, a2, a3, a4], s.v, .int .i64 now] (refB [a0, a1, a2, a3, a4])) = Tree.denN (rhT1 own ev now [a0, a1, a2, a3, a4] s 4 1 a4 [a0, a1, a2, a3]) := by
  kernel_rfl
theorem rh1_5_4_2 (own : Ck) (ev now : Int) (s : Ste) (a0 a1 a2 a3 a4 : RefE) : Tree.denN (rhF [rhFi own ev [a0, a1, a2, a3, a4] s 4, (30, rlS), rhWo own ev [a0, a1, a2, a3, a4] 4, rhWt own ev [a0, a1, a2, a3] (reE s now a4) 2] [refV own ev [a0, a1, a2, a3, a4], s.v, .int .i64 now] (refB [a0, a1, a2, a3, a4])) = Tree.denN (rhT1 own ev now [a0, a1, a2, a3, a4] s 4 2 a4 [a0, a1, a2, a3]) := by
  kernel_rfl
theorem rh1_5_4_3 (own : Ck) (ev now : Int) (s : Ste) (a0 a1 a2 a3 a4 : RefE) : Tree.denN (rhF [rhFi own ev [a0, a1, a2, a3, a4] s 4, (30, rlS), rhWo own ev [a0, a1, a2, a3, a4] 4, rhWt own ev [a0, a1, a2, a3] (reE s now a4) 3] [refV own ev [a0, a1, a2, a3, a4], s.v, .int .i64 now] (refB [a0, a1, a2, a3, a4])) = Tree.denN (rhT1 own ev now [a0, a1, a2, a3, a4] s 4 3 a4 [a0, a1, a2, a3]) := by
  kernel_rfl
theorem rh1_5_4_4 (own : Ck) (ev now : Int) (s : Ste) (a0 a1 a2 a3 a4 : RefE) : Tree.denN (rhF [rhFi own ev [a0, a1, a2, a3, a4] s 4, (30, rlS), rhWo own ev [a0, a1, a2, a3, a4] 4, rhWt own ev [a0, a1, a2, a3] (reE s now a4) 4] [refV own ev [a0, a1, a2, a3, a4], s.v, .int .i64 now] (refB [a0, a1, a2, a3, a4])) = Tree.denN (rhT1 own ev now [a0, a1, a2, a3, a4] s 4 4 a4 [a0, a1, a2, a3]) := by
  kernel_rfl
end Go.Proofs.Ytgdalboilghciaa
