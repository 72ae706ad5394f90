/- Layer 8: the reference: who is heard in place of another. The conditions stand in the specifications. -/
import Derived.Test.YtgdalboilghciaaAlB
set_option linter.unusedSimpArgs false
set_option linter.unusedVariables false
set_option linter.unnecessarySimpa false
set_option linter.unusedSectionVars false
set_option maxRecDepth 100000
set_option linter.unusedSimpArgs false
set_option linter.unusedVariables false
namespace Go.Proofs.Ytgdalboilghciaa
open Go.Rx
theorem rh3_0_0 (own : Ck) (ev now : Int) (s : Ste) (a0 a1 a2 a3 a4 : RefE) : Tree.denN (rhF [rhFi own ev [a0, a1, a2, a3, a4] s (-1), rhOv own ev now [a0, a1, a2, a3, a4] 0, rhWo own ev [a0, a1, a2, a3, a4] 0, rhWt own ev [a1, a2, a3, a4] (nwE s now) 0] [refV own ev [a0, a1, a2, a3, a4], s.v, .int .i64 now] (refB [a0, a1, a2, a3, a4])) = Tree.denN (rhT3 own ev now [a0, a1, a2, a3, a4] s 0 0 [a1, a2, a3, a4]) := by
  kernel_rfl
theorem rh3_0_1 (own : Ck) (ev now : Int) (s : Ste) (a0 a1 a2 a3 a4 : RefE) : Tree.denN (rhF [rhFi own ev [a0, a1, a2, a3, a4] s (-1), rhOv own ev now [a0, a1, a2, a3, a4] 0, rhWo own ev [a0, a1, a2, a3, a4] 0, rhWt own ev [a1, a2, a3, a4] (nwE s now) 1] [refV own ev [a0, a1, a2, a3, a4], s.v, .int .i64 now] (refB [a0, a1, a2, a3, a4])) = Tree.denN (rhT3 own ev now [a0, a1, a2, a3, a4] s 0 1 [a1, a2, a3, a4]) := by
  kernel_rfl
theorem rh3_0_2 (own : Ck) (ev now : Int) (s : Ste) (a0 a1 a2 a3 a4 : RefE) : Tree.denN (rhF [rhFi own ev [a0, a1, a2, a3, a4] s (-1), rhOv own ev now [a0, a1, a2, a3, a4] 0, rhWo own ev [a0, a1, a2, a3, a4] 0, rhWt own ev [a1, a2, a3, a4] (nwE s now) 2] [refV own ev [a0, a1, a2, a3, a4], s.v, .int .i64 now] (refB [a0, a1, a2, a3, a4])) = Tree.denN (rhT3 own ev now [a0, a1, a2, a3, a4] s 0 2 [a1, a2, a3, a4]) := by
  kernel_rfl
theorem rh3_0_3 (own : Ck) (ev now : Int) (s : Ste) (a0 a1 a2 a3 a4 : RefE) : Tree.denN (rhF [rhFi own ev [a0, a1, a2, a3, a4] s (-1), rhOv own ev now [a0, a1, a2, a3, a4] 0, rhWo own ev [a0, a1, a2, a3, a4] 0, rhWt own ev [a1, a2, a3, a4] (nwE s now) 3] [refV own ev [a0, a1, a2, a3, a4], s.v, .int .i64 now] (refB [a0, a1, a2, a3, a4])) = Tree.denN (rhT3 own ev now [a0, a1, a2, a3, a4] s 0 3 [a1, a2, a3, a4]) := by
  kernel_rfl
theorem rh3_0_4 (own : Ck) (ev now : Int) (s : Ste) (a0 a1 a2 a3 a4 : RefE) : Tree.denN (rhF [rhFi own ev [a0, a1, a2, a3, a4] s (-1), rhOv own ev now [a0, a1, a2, a3, a4] 0, rhWo own ev [a0, a1, a2, a3, a4] 0, rhWt own ev [a1, a2, a3, a4] (nwE s now) 4] [refV own ev [a0, a1, a2, a3, a4], s.v, .int .i64 now] (refB [a0, a1, a2, a3, a4])) = Tree.denN (rhT3 own ev now [a0, a1, a2, a3, a4] s 0 4 [a1, a2, a3, a4]) := by
  kernel_rfl
theorem rh3_1_0 (own : Ck) (ev now : Int) (s : Ste) (a0 a1 a2 a3 a4 : RefE) : Tree.denN (rhF [rhFi own ev [a0, a1, a2, a3, a4] s (-1), rhOv own ev now [a0, a1, a2, a3, a4] 1, rhWo own ev [a0, a1, a2, a3, a4] 1, rhWt own ev [a0, a2, a3, a4] (nwE s now) 0] [refV own ev [a0, a1, a2, a3, a4], s.v, .int .i64 now] (refB [a0, a1, a2, a3, a4])) = Tree.denN (rhT3 own ev now [a0, a1, a2, a3, a4] s 1 0 [a0, a2, a3, a4]) := by
  kernel_rfl
theorem rh3_1_1 (own : Ck) (ev now : Int) (s : Ste) (a0 a1 a2 a3 a4 : RefE) : Tree.denN (rhF [rhFi own ev [a0, a1, a2, a3, a4] s (-1), rhOv own ev now [a0, a1, a2, a3, a4] 1, rhWo own ev [a0, a1, a2, a3, a4] 1, rhWt own ev [a0, a2, a3, a4] (nwE s now) 1] [refV own ev [a0, a1, a2, a3, a4], s.v, .int .i64 now] (refB [a0, a1, a2, a3, a4])) = Tree.denN (rhT3 own ev now [a0, a1, a2, a3, a4] s 1 1 [a0, a2, a3, a4]) := by
  kernel_rfl
theorem rh3_1_2 (own : Ck) (ev now : Int) (s : Ste) (a0 a1 a2 a3 a4 : RefE) : Tree.denN (rhF [rhFi own ev [a0, a1, a2, a3, a4] s (-1), rhOv own ev now [a0, a1, a2, a3, a4] 1, rhWo own ev [a0, a1, a2, a3, a4] 1, rhWt own ev [a0, a2, a3, a4] (nwE s now) 2] [refV own ev [a0, a1, a2, a3, a4], s.v, .int .i64 now] (refB [a0, a1, a2, a3, a4])) = Tree.denN (rhT3 own ev now [a0, a1, a2, a3, a4] s 1 2 [a0, a2, a3, a4]) := by
  kernel_rfl
theorem rh3_1_3 (own : Ck) (ev now : Int) (s : Ste) (a0 a1 a2 a3 a4 : RefE) : Tree.denN (rhF [rhFi own ev [a0, a1, a2, a3, a4] s (-1), rhOv own ev now [a0, a1, a2, a3, a4] 1, rhWo own ev [a0, a1, a2, a3, a4] 1, rhWt own ev [a0, a2, a3, a4] (nwE s now) 3] [refV own ev [a0, a1, a2, a3, a4], s.v, .int .i64 now] (refB [a0, a1, a2, a3, a4])) = Tree.denN (rhT3 own ev now [a0, a1, a2, a3, a4] s 1 3 [a0, a2, a3, a4]) := by
  kernel_rfl
theorem rh3_1_4 (own : Ck) (ev now : Int) (s : Ste) (a0 a1 a2 a3 a4 : RefE) : Tree.denN (rhF [rhFi own ev [a0, a1, a2, a3, a4] s (-1), rhOv own ev now [a0, a1, a2, a3, a4] 1, rhWo own ev [a0, a1, a2, a3, a4] 1, rhWt own ev [a0, a2, a3, a4] (nwE s now) 4] [refV own ev [a0, a1, a2, a3, a4], s.v, .int .i64 now] (refB [a0, a1, a2, a3, a4])) = Tree.denN (rhT3 own ev now [a0, a1, a2, a3, a4] s 1 4 [a0, a2, a3, a4]) := by
  kernel_rfl
theorem rh3_2_0 (own : Ck) (ev now : Int) (s : Ste) (a0 a1 a2 a3 a4 : RefE) : Tree.denN (rhF [rhFi own ev [a0, a1, a2, a3, a4] s (-1), rhOv own ev now [a0, a1, a2, a3, a4] 2, rhWo own ev [a0, a1, a2, a3, a4] 2, rhWt own ev [a0, a1, a3, a4] (nwE s now) 0] [refV own ev [a0, a1, a2, a3, a4], s.v, .int .i64 now] (refB [a0, a1, a2, a3, a4])) = Tree.denN (rhT3 own ev now [a0, a1, a2, a3, a4] s 2 0 [a0, a1, a3, a4]) := by
  kernel_rfl
theorem rh3_2_1 (own : Ck) (ev now : Int) (s : Ste) (a0 a1 a2 a3 a4 : RefE) : Tree.denN (rhF [rhFi own ev [a0, a1, a2, a3, a4] s (-1), rhOv own ev now [a0, a1, a2, a3, a4] 2, rhWo own ev [a0, a1, a2, a3, a4] 2, rhWt own ev [a0, a1, a3, a4] (nwE s now) 1] [refV own ev [a0, a1, a2, a3, a4], s.v, .int .i64 now] (refB [a0, a1, a2, a3, a4])) = Tree.denN (rhT3 own ev now [a0, a1, a2, a3, a4] s 2 1 [a0, a1, a3, a4]) := by
  kernel_rfl
theorem rh3_2_2 (own : Ck) (ev now : Int) (s : Ste) (a0 a1 a2 a3 a4 : RefE) : Tree.denN (rhF [rhFi own ev [a0, a1, a2, a3, a4] s (-1), rhOv own ev now [a0, a1, a2, a3, a4] 2, rhWo own ev [a0, a1, a2, a3, a4] 2, rhWt own ev [a0, a1, a3, a4] (nwE s now) 2] [refV own ev [a0, a1, a2, a3, a4], s.v, .int .i64 now] (refB [a0, a1, a2, a3, a4])) = Tree.denN (rhT3 own ev now [a0, a1, a2, a3, a4] s 2 2 [a0, a1, a3, a4]) := by
  kernel_rfl
theorem rh3_2_3 (own : Ck) (ev now : Int) (s : Ste) (a0 a1 a2 a3 a4 : RefE) : Tree.denN (rhF [rhFi own ev [a0, a1, a2, a3, a4] s (-1), rhOv own ev now [a0, a1, a2, a3, a4] 2, rhWo own ev [a0, a1, a2, a3, a4] 2, rhWt own ev [a0, a1, a3, a4] (nwE s now) 3] [refV own ev [a0, a1, a2, a3, a4], s.v, .int .i64 now] (refB [a0, a1, a2, a3, a4])) = Tree.denN (rhT3 own ev now [a0, a1, a2, a3, a4] s 2 3 [a0, a1, a3, a4]) := by
  kernel_rfl
theorem rh3_2_4 (own : Ck) (ev now : Int) (s : Ste) (a0 a1 a2 a3 a4 : RefE) : Tree.denN (rhF [rhFi own ev [a0, a1, a2, a3, a4] s (-1), rhOv own ev now [a0, a1, a2, a3, a4] 2, rhWo own ev [a0, a1, a2, a3, a4] 2, rhWt own ev [a0, a1, a3, a4] (nwE s now) 4] [refV own ev [a0, a1, a2, a3, a4], s.v, .int .i64 now] (refB [a0, a1, a2, a3, a4])) = Tree.denN (rhT3 own ev now [a0, a1, a2, a3, a4] s 2 4 [a0, a1, a3, a4]) := by
  kernel_rfl
theorem rh3_3_0 (own : Ck) (ev now : Int) (s : Ste) (a0 a1 a2 a3 a4 : RefE) : Tree.denN (rhF [rhFi own ev [a0, a1, a2, a3, a4] s (-1), rhOv own ev now [a0, a1, a2, a3, a4] 3, rhWo own ev [a0, a1, a2, a3, a4] 3, rhWt own ev [a0, a1, a2, a4] (nwE s now) 0] [refV own ev [a0, a1, a2, a3, a4], s.v, .int .i64 now] (refB [a0, a1, a2, a3, a4])) = Tree.denN (rhT3 own ev now [a0, a1, a2, a3, a4] s 3 0 [a0, a1, a2, a4]) := by
  kernel_rfl
theorem rh3_3_1 (own : Ck) (ev now : Int) (s : Ste) (a0 a1 a2 a3 a4 : RefE) : Tree.denN (rhF [rhFi own ev [a0, a1, a2, a3, a4] s (-1), rhOv own ev now [a0, a1, a2, a3, a4] 3, rhWo own ev [a0, a1, a2, a3, a4] 3, rhWt own ev [a0, a1, a2, a4] (nwE s now) 1] [refV own ev [a0, a1, a2, a3, a4], s.v, .int .i64 now] (refB [a0, a1, a2, a3, a4])) = Tree.denN (rhT3 own ev now [a0, a1, a2, a3, a4] s 3 1 [a0, a1, a2, a4]) := by
  kernel_rfl
theorem rh3_3_2 (own : Ck) (ev now : Int) (s : Ste) (a0 a1 a2 a3 a4 : RefE) : Tree.denN (rhF [rhFi own ev [a0, a1, a2, a3, a4] s (-1), rhOv own ev now [a0, a1, a2, a3, a4] 3, rhWo own ev [a0, a1, a2, a3, a4] 3, rhWt own ev [a0, a1, a2, a4] (nwE s now) 2] [refV own ev [a0, a1, a2, a3, a4], s.v, .int .i64 now] (refB [a0, a1, a2, a3, a4])) = Tree.denN (rhT3 own ev now [a0, a1, a2, a3, a4] s 3 2 [a0, a1, a2, a4]) := by
  kernel_rfl
theorem rh3_3_3 (own : Ck) (ev now : Int) (s : Ste) (a0 a1 a2 a3 a4 : RefE) : Tree.denN (rhF [rhFi own ev [a0, a1, a2, a3, a4] s (-1), rhOv own ev now [a0, a1, a2, a3, a4] 3, rhWo own ev [a0, a1, a2, a3, a4] 3, rhWt own ev [a0, a1, a2, a4] (nwE s now) 3] [refV own ev [a0, a1, a2, a3, a4], s.v, .int .i64 now] (refB [a0, a1, a2, a3, a4])) = Tree.denN (rhT3 own ev now [a0, a1, a2, a3, a4] s 3 3 [a0, a1, a2, a4]) := by
  kernel_rfl
theorem rh3_3_4 (own : Ck) (ev now : Int) (s : Ste) (a0 a1 a2 a3 a4 : RefE) : Tree.denN (rhF [rhFi own ev [a0, a1, a2, a3, a4] s (-1), rhOv own ev now [a0, a1, a2, a3, a4] 3, rhWo own ev [a0, a1, a2, a3, a4] 3, rhWt own ev [a0, a1, a2, a4] (nwE s now) 4] [refV own ev [a0, a1, a2, a3, a4], s.v, .int .i64 now] (refB [a0, a1, a2, a3, a4])) = Tree.denN (rhT3 own ev now [a0, a1, a2, a3, a4] s 3 4 [a0, a1, a2, a4]) := by
  kernel_rfl
theorem rh3_4_0 (own : Ck) (ev now : Int) (s : Ste) (a0 a1 a2 a3 a4 : RefE) : Tree.denN (rhF [rhFi own ev [a0, a1, a2, a3, a4] s (-1), rhOv own ev now [a0, a1, a2, a3, a4] 4, rhWo own ev [a0, a1, a2, a3, a4] 4, rhWt own ev [a0, a1, a2, a3] (nwE s now) 0] [refV own ev [a0, a1, a2, a3, a4], s.v, .int .i64 now] (refB [a0, a1, a2, a3, a4])) = Tree.denN (rhT3 own ev now [a0, a1, a2, a3, a4] s 4 0 [a0, a1, a2, a3]) := by
  kernel_rfl
theorem rh3_4_1 (own : Ck) (ev now : Int) (s : Ste) (a0 a1 a2 a3 a4 : RefE) : Tree.denN (rhF [rhFi own ev [a0, a1, a2, a3, a4] s (-1), rhOv own ev now [a0, a1, a2, a3, a4] 4, rhWo own ev [a0, a1, a2, a3, a4] 4, rhWt own ev [a0, a1, a2, a3] (nwE s now) 1] [refV own ev [a0, a1, a2, a3, a4], s.v, .int .i64 now] (refB [a0, a1, a2, a3, a4])) = Tree.denN (rhT3 own ev now [a0, a1, a2, a3, a4] s 4 1 [a0, a1, a2, a3]) := by
  kernel_rfl
theorem rh3_4_2 (own : Ck) (ev now : Int) (s : Ste) (a0 a1 a2 a3 a4 : RefE) : Tree.denN (rhF [rhFi own ev [a0, a1, a2, a3, a4] s (-1), rhOv own ev now [a0, a1, a2, a3, a4] 4, rhWo own ev [a0, a1, a2, a3, a4] 4, rhWt own ev [a0, a1, a2, a3] (nwE s now) 2] [refV own ev [a0, a1, a2, a3, a4], s.v, .int .i64 now] (refB [a0, a1, a2, a3, a4])) = Tree.denN (rhT3 own ev now [a0, a1, a2, a3, a4] s 4 2 [a0, a1, a2, a3]) := by
  kernel_rfl
theorem rh3_4_3 (own : Ck) (ev now : Int) (s : Ste) (a0 a1 a2 a3 a4 : RefE) : Tree.denN (rhF [rhFi own ev [a0, a1, a2, a3, a4] s (-1), rhOv own ev now [a0, a1, a2, a3, a4] 4, rhWo own ev [a0, a1, a2, a3, a4] 4, rhWt own ev [a0, a1, a2, a3] (nwE s now) 3] [refV own ev [a0, a1, a2, a3, a4], s.v, .int .i64 now] (refB [a0, a1, a2, a3, a4])) = Tree.denN (rhT3 own ev now [a0, a1, a2, a3, a4] s 4 3 [a0, a1, a2, a3]) := by
  kernel_rfl
theorem rh3_4_4 (own : Ck) (ev now : Int) (s : Ste) (a0 a1 a2 a3 a4 : RefE) : Tree.denN (rhF [rhFi own ev [a0, a1, a2, a3, a4] s (-1), rhOv own ev now [a0, a1, a2, a3, a4] 4, rhWo own ev [a0, a1, a2, a3, a4] 4, rhWt own ev [a0, a1, a2, a3] (nwE s now) 4] [refV own ev [a0, a1, a2, a3, a4], s.v, .int .i64 now] (refB [a0, a1, a2, a3, a4])) = Tree.denN (rhT3 own ev now [a0, a1, a2, a3, a4] s 4 4 [a0, a1, a2, a3]) := by
  kernel_rfl
end Go.Proofs.Ytgdalboilghciaa
