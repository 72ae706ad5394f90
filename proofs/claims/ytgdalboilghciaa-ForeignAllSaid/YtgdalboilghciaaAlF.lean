/- Layer 8: the reference: a call. The conditions stand in the specifications. -/
import Derived.Test.YtgdalboilghciaaAlB
import Derived.Test.YtgdalboilghciaaFoE
set_option linter.unusedSimpArgs false
set_option linter.unusedVariables false
set_option linter.unnecessarySimpa false
set_option linter.unusedSectionVars false
set_option maxRecDepth 100000
set_option linter.unusedSimpArgs false
set_option linter.unusedVariables false
namespace Go.Proofs.Ytgdalboilghciaa
open Go.Rx
noncomputable abbrev rdF (G : List (Nat × Rx.Spec)) (a : List V) (b : List Blk) : Tree Res := fFn P (specsOf G) (loopsOf []) Try.f16 a b
noncomputable abbrev rdH (own : Ck) (ev : Int) (es : RTab) (o : Opp) (R : Res) : Nat × Rx.Spec := (27, orS [refV own ev es, o.s.v, .int .i64 o.now] (refB es) R)
def rdC (own : Ck) (ev : Int) (es : RTab) : Res := ⟨.tup [.agg (own.vs ++ [.int .i64 ev, .nils]), .int .i64 0], noneL (refB es), []⟩
def rdW (own : Ck) (ev : Int) (es : RTab) (j : Nat) : Res := ⟨.tup [(woR own ev es j).v, .int .i64 1], noneL (refB es), (woR own ev es j).new⟩
noncomputable def rdT (own : Ck) (ev : Int) (es : RTab) (o : Opp) (X0 X1 : Tree Res) : Tree Res := .ite (o.k == 0) X0 (.ite (o.k == 1) X1 (.ite (o.k == 2) (.leaf (rdC own ev es)) (.leaf (rhN own ev es 0))))
noncomputable abbrev rdQ (own : Ck) (ev : Int) (es : RTab) (o : Opp) (R : Res) : Tree Res := q [refV own ev es, o.s.v, .int .i64 o.now] (refB es) (.leaf R)
theorem rdx_0 (own : Ck) (ev : Int) (o : Opp)  : Tree.denN (rdF [] [refV own ev [], o.v] (refB [])) = Tree.denN (rdT own ev [] o .fail .fail) := by
  kernel_rfl
theorem rdn_0 (own : Ck) (ev : Int) (o : Opp) (t : Int)  : Tree.denN (rdF [rdH own ev [] o (rhN own ev [] t)] [refV own ev [], o.v] (refB [])) = Tree.denN (rdT own ev [] o (rdQ own ev [] o (rhN own ev [] t)) .fail) := by
  kernel_rfl
theorem rdf_0 (own : Ck) (ev : Int) (o : Opp)  : Tree.denN (rdF [rhFi own ev [] o.s (-1)] [refV own ev [], o.v] (refB [])) = Tree.denN (rdT own ev [] o .fail (q [refV own ev [], o.s.snd.v] (refB []) (.leaf (rhN own ev [] 0)))) := by
  kernel_rfl
theorem rdh_0_n_0 (own : Ck) (ev : Int) (o : Opp) (e : RefE) (t : Int)  : Tree.denN (rdF [rdH own ev [] o (rhR own ev [] none 0 e t)] [refV own ev [], o.v] (refB [])) = Tree.denN (rdT own ev [] o (rdQ own ev [] o (rhR own ev [] none 0 e t)) .fail) := by
  kernel_rfl
theorem rdx_1 (own : Ck) (ev : Int) (o : Opp) (a0 : RefE) : Tree.denN (rdF [] [refV own ev [a0], o.v] (refB [a0])) = Tree.denN (rdT own ev [a0] o .fail .fail) := by
  kernel_rfl
theorem rdn_1 (own : Ck) (ev : Int) (o : Opp) (t : Int) (a0 : RefE) : Tree.denN (rdF [rdH own ev [a0] o (rhN own ev [a0] t)] [refV own ev [a0], o.v] (refB [a0])) = Tree.denN (rdT own ev [a0] o (rdQ own ev [a0] o (rhN own ev [a0] t)) .fail) := by
  kernel_rfl
theorem rdf_1 (own : Ck) (ev : Int) (o : Opp) (a0 : RefE) : Tree.denN (rdF [rhFi own ev [a0] o.s (-1)] [refV own ev [a0], o.v] (refB [a0])) = Tree.denN (rdT own ev [a0] o .fail (q [refV own ev [a0], o.s.snd.v] (refB [a0]) (.leaf (rhN own ev [a0] 0)))) := by
  kernel_rfl
theorem rdw_1_0 (own : Ck) (ev : Int) (o : Opp) (a0 : RefE) : Tree.denN (rdF [rhFi own ev [a0] o.s 0, rhWo own ev [a0] 0] [refV own ev [a0], o.v] (refB [a0])) = Tree.denN (rdT own ev [a0] o .fail (q [refV own ev [a0], o.s.snd.v] (refB [a0]) (q [refV own ev [a0], .int .i64 (0 : Int)] (refB [a0]) (.leaf (rdW own ev [a0] 0))))) := by
  kernel_rfl
theorem rdh_1_n_0 (own : Ck) (ev : Int) (o : Opp) (e : RefE) (t : Int) (a0 : RefE) : Tree.denN (rdF [rdH own ev [a0] o (rhR own ev [a0] none 0 e t)] [refV own ev [a0], o.v] (refB [a0])) = Tree.denN (rdT own ev [a0] o (rdQ own ev [a0] o (rhR own ev [a0] none 0 e t)) .fail) := by
  kernel_rfl
theorem rdh_1_n_1 (own : Ck) (ev : Int) (o : Opp) (e : RefE) (t : Int) (a0 : RefE) : Tree.denN (rdF [rdH own ev [a0] o (rhR own ev [a0] none 1 e t)] [refV own ev [a0], o.v] (refB [a0])) = Tree.denN (rdT own ev [a0] o (rdQ own ev [a0] o (rhR own ev [a0] none 1 e t)) .fail) := by
  kernel_rfl
theorem rdh_1_0_0 (own : Ck) (ev : Int) (o : Opp) (e : RefE) (t : Int) (a0 : RefE) : Tree.denN (rdF [rdH own ev [a0] o (rhR own ev [a0] (some 0) 0 e t)] [refV own ev [a0], o.v] (refB [a0])) = Tree.denN (rdT own ev [a0] o (rdQ own ev [a0] o (rhR own ev [a0] (some 0) 0 e t)) .fail) := by
  kernel_rfl
theorem rdx_2 (own : Ck) (ev : Int) (o : Opp) (a0 a1 : RefE) : Tree.denN (rdF [] [refV own ev [a0, a1], o.v] (refB [a0, a1])) = Tree.denN (rdT own ev [a0, a1] o .fail .fail) := by
  kernel_rfl
theorem rdn_2 (own : Ck) (ev : Int) (o : Opp) (t : Int) (a0 a1 : RefE) : Tree.denN (rdF [rdH own ev [a0, a1] o (rhN own ev [a0, a1] t)] [refV own ev [a0, a1], o.v] (refB [a0, a1])) = Tree.denN (rdT own ev [a0, a1] o (rdQ own ev [a0, a1] o (rhN own ev [a0, a1] t)) .fail) := by
  kernel_rfl
theorem rdf_2 (own : Ck) (ev : Int) (o : Opp) (a0 a1 : RefE) : Tree.denN (rdF [rhFi own ev [a0, a1] o.s (-1)] [refV own ev [a0, a1], o.v] (refB [a0, a1])) = Tree.denN (rdT own ev [a0, a1] o .fail (q [refV own ev [a0, a1], o.s.snd.v] (refB [a0, a1]) (.leaf (rhN own ev [a0, a1] 0)))) := by
  kernel_rfl
theorem rdw_2_0 (own : Ck) (ev : Int) (o : Opp) (a0 a1 : RefE) : Tree.denN (rdF [rhFi own ev [a0, a1] o.s 0, rhWo own ev [a0, a1] 0] [refV own ev [a0, a1], o.v] (refB [a0, a1])) = Tree.denN (rdT own ev [a0, a1] o .fail (q [refV own ev [a0, a1], o.s.snd.v] (refB [a0, a1]) (q [refV own ev [a0, a1], .int .i64 (0 : Int)] (refB [a0, a1]) (.leaf (rdW own ev [a0, a1] 0))))) := by
  kernel_rfl
theorem rdw_2_1 (own : Ck) (ev : Int) (o : Opp) (a0 a1 : RefE) : Tree.denN (rdF [rhFi own ev [a0, a1] o.s 1, rhWo own ev [a0, a1] 1] [refV own ev [a0, a1], o.v] (refB [a0, a1])) = Tree.denN (rdT own ev [a0, a1] o .fail (q [refV own ev [a0, a1], o.s.snd.v] (refB [a0, a1]) (q [refV own ev [a0, a1], .int .i64 (1 : Int)] (refB [a0, a1]) (.leaf (rdW own ev [a0, a1] 1))))) := by
  kernel_rfl
theorem rdh_2_n_0 (own : Ck) (ev : Int) (o : Opp) (e : RefE) (t : Int) (a0 a1 : RefE) : Tree.denN (rdF [rdH own ev [a0, a1] o (rhR own ev [a0, a1] none 0 e t)] [refV own ev [a0, a1], o.v] (refB [a0, a1])) = Tree.denN (rdT own ev [a0, a1] o (rdQ own ev [a0, a1] o (rhR own ev [a0, a1] none 0 e t)) .fail) := by
  kernel_rfl
theorem rdh_2_n_1 (own : Ck) (ev : Int) (o : Opp) (e : RefE) (t : Int) (a0 a1 : RefE) : Tree.denN (rdF [rdH own ev [a0, a1] o (rhR own ev [a0, a1] none 1 e t)] [refV own ev [a0, a1], o.v] (refB [a0, a1])) = Tree.denN (rdT own ev [a0, a1] o (rdQ own ev [a0, a1] o (rhR own ev [a0, a1] none 1 e t)) .fail) := by
  kernel_rfl
theorem rdh_2_n_2 (own : Ck) (ev : Int) (o : Opp) (e : RefE) (t : Int) (a0 a1 : RefE) : Tree.denN (rdF [rdH own ev [a0, a1] o (rhR own ev [a0, a1] none 2 e t)] [refV own ev [a0, a1], o.v] (refB [a0, a1])) = Tree.denN (rdT own ev [a0, a1] o (rdQ own ev [a0, a1] o (rhR own ev [a0, a1] none 2 e t)) .fail) := by
  kernel_rfl
theorem rdh_2_0_0 (own : Ck) (ev : Int) (o : Opp) (e : RefE) (t : Int) (a0 a1 : RefE) : Tree.denN (rdF [rdH own ev [a0, a1] o (rhR own ev [a0, a1] (some 0) 0 e t)] [refV own ev [a0, a1], o.v] (refB [a0, a1])) = Tree.denN (rdT own ev [a0, a1] o (rdQ own ev [a0, a1] o (rhR own ev [a0, a1] (some 0) 0 e t)) .fail) := by
  kernel_rfl
theorem rdh_2_0_1 (own : Ck) (ev : Int) (o : Opp) (e : RefE) (t : Int) (a0 a1 : RefE) : Tree.denN (rdF [rdH own ev [a0, a1] o (rhR own ev [a0, a1] (some 0) 1 e t)] [refV own ev [a0, a1], o.v] (refB [a0, a1])) = Tree.denN (rdT own ev [a0, a1] o (rdQ own ev [a0, a1] o (rhR own ev [a0, a1] (some 0) 1 e t)) .fail) := by
  kernel_rfl
theorem rdh_2_1_0 (own : Ck) (ev : Int) (o : Opp) (e : RefE) (t : Int) (a0 a1 : RefE) : Tree.denN (rdF [rdH own ev [a0, a1] o (rhR own ev [a0, a1] (some 1) 0 e t)] [refV own ev [a0, a1], o.v] (refB [a0, a1])) = Tree.denN (rdT own ev [a0, a1] o (rdQ own ev [a0, a1] o (rhR own ev [a0, a1] (some 1) 0 e t)) .fail) := by
  kernel_rfl
theorem rdh_2_1_1 (own : Ck) (ev : Int) (o : Opp) (e : RefE) (t : Int) (a0 a1 : RefE) : Tree.denN (rdF [rdH own ev [a0, a1] o (rhR own ev [a0, a1] (some 1) 1 e t)] [refV own ev [a0, a1], o.v] (refB [a0, a1])) = Tree.denN (rdT own ev [a0, a1] o (rdQ own ev [a0, a1] o (rhR own ev [a0, a1] (some 1) 1 e t)) .fail) := by
  kernel_rfl
theorem rdx_3 (own : Ck) (ev : Int) (o : Opp) (a0 a1 a2 : RefE) : Tree.denN (rdF [] [refV own ev [a0, a1, a2], o.v] (refB [a0, a1, a2])) = Tree.denN (rdT own ev [a0, a1, a2] o .fail .fail) := by
  kernel_rfl
theorem rdn_3 (own : Ck) (ev : Int) (o : Opp) (t : Int) (a0 a1 a2 : RefE) : Tree.denN (rdF [rdH own ev [a0, a1, a2] o (rhN own ev [a0, a1, a2] t)] [refV own ev [a0, a1, a2], o.v] (refB [a0, a1, a2])) = Tree.denN (rdT own ev [a0, a1, a2] o (rdQ own ev [a0, a1, a2] o (rhN own ev [a0, a1, a2] t)) .fail) := by
  kernel_rfl
theorem rdf_3 (own : Ck) (ev : Int) (o : Opp) (a0 a1 a2 : RefE) : Tree.denN (rdF [rhFi own ev [a0, a1, a2] o.s (-1)] [refV own ev [a0, a1, a2], o.v] (refB [a0, a1, a2])) = Tree.denN (rdT own ev [a0, a1, a2] o .fail (q [refV own ev [a0, a1, a2], o.s.snd.v] (refB [a0, a1, a2]) (.leaf (rhN own ev [a0, a1, a2] 0)))) := by
  kernel_rfl
theorem rdw_3_0 (own : Ck) (ev : Int) (o : Opp) (a0 a1 a2 : RefE) : Tree.denN (rdF [rhFi own ev [a0, a1, a2] o.s 0, rhWo own ev [a0, a1, a2] 0] [refV own ev [a0, a1, a2], o.v] (refB [a0, a1, a2])) = Tree.denN (rdT own ev [a0, a1, a2] o .fail (q [refV own ev [a0, a1, a2], o.s.snd.v] (refB [a0, a1, a2]) (q [refV own ev [a0, a1, a2], .int .i64 (0 : Int)] (refB [a0, a1, a2]) (.leaf (rdW own ev [a0, a1, a2] 0))))) := by
  kernel_rfl
theorem rdw_3_1 (own : Ck) (ev : Int) (o : Opp) (a0 a1 a2 : RefE) : Tree.denN (rdF [rhFi own ev [a0, a1, a2] o.s 1, rhWo own ev [a0, a1, a2] 1] [refV own ev [a0, a1, a2], o.v] (refB [a0, a1, a2])) = Tree.denN (rdT own ev [a0, a1, a2] o .fail (q [refV own ev [a0, a1, a2], o.s.snd.v] (refB [a0, a1, a2]) (q [refV own ev [a0, a1, a2], .int .i64 (1 : Int)] (refB [a0, a1, a2]) (.leaf (rdW own ev [a0, a1, a2] 1))))) := by
  kernel_rfl
theorem rdw_3_2 (own : Ck) (ev : Int) (o : Opp) (a0 a1 a2 : RefE) : Tree.denN (rdF [rhFi own ev [a0, a1, a2] o.s 2, rhWo own ev [a0, a1, a2] 2] [refV own ev [a0, a1, a2], o.v] (refB [a0, a1, a2])) = Tree.denN (rdT own ev [a0, a1, a2] o .fail (q [refV own ev [a0, a1, a2], o.s.snd.v] (refB [a0, a1, a2]) (q [refV own ev [a0, a1, a2], .int .i64 (2 : Int)] (refB [a0, a1, a2]) (.leaf (rdW own ev [a0, a1, a2] 2))))) := by
  kernel_rfl
theorem rdh_3_n_0 (own : Ck) (ev : Int) (o : Opp) (e : RefE) (t : Int) (a0 a1 a2 : RefE) : Tree.denN (rdF [rdH own ev [a0, a1, a2] o (rhR own ev [a0, a1, a2] none 0 e t)] [refV own ev [a0, a1, a2], o.v] (refB [a0, a1, a2])) = Tree.denN (rdT own ev [a0, a1, a2] o (rdQ own ev [a0, a1, a2] o (rhR own ev [a0, a1, a2] none 0 e t)) .fail) := by
  kernel_rfl
theorem rdh_3_n_1 (own : Ck) (ev : Int) (o : Opp) (e : RefE) (t : Int) (a0 a1 a2 : RefE) : Tree.denN (rdF [rdH own ev [a0, a1, a2] o (rhR own ev [a0, a1, a2] none 1 e t)] [refV own ev [a0, a1, a2], o.v] (refB [a0, a1, a2])) = Tree.denN (rdT own ev [a0, a1, a2] o (rdQ own ev [a0, a1, a2] o (rhR own ev [a0, a1, a2] none 1 e t)) .fail) := by
  kernel_rfl
theorem rdh_3_n_2 (own : Ck) (ev : Int) (o : Opp) (e : RefE) (t : Int) (a0 a1 a2 : RefE) : Tree.denN (rdF [rdH own ev [a0, a1, a2] o (rhR own ev [a0, a1, a2] none 2 e t)] [refV own ev [a0, a1, a2], o.v] (refB [a0, a1, a2])) = Tree.denN (rdT own ev [a0, a1, a2] o (rdQ own ev [a0, a1, a2] o (rhR own ev [a0, a1, a2] none 2 e t)) .fail) := by
  kernel_rfl
theorem rdh_3_n_3 (own : Ck) (ev : Int) (o : Opp) (e : RefE) (t : Int) (a0 a1 a2 : RefE) : Tree.denN (rdF [rdH own ev [a0, a1, a2] o (rhR own ev [a0, a1, a2] none 3 e t)] [refV own ev [a0, a1, a2], o.v] (refB [a0, a1, a2])) = Tree.denN (rdT own ev [a0, a1, a2] o (rdQ own ev [a0, a1, a2] o (rhR own ev [a0, a1, a2] none 3 e t)) .fail) := by
  kernel_rfl
theorem rdh_3_0_0 (own : Ck) (ev : Int) (o : Opp) (e : RefE) (t : Int) (a0 a1 a2 : RefE) : Tree.denN (rdF [rdH own ev [a0, a1, a2] o (rhR own ev [a0, a1, a2] (some 0) 0 e t)] [refV own ev [a0, a1, a2], o.v] (refB [a0, a1, a2])) = Tree.denN (rdT own ev [a0, a1, a2] o (rdQ own ev [a0, a1, a2] o (rhR own ev [a0, a1, a2] (some 0) 0 e t)) .fail) := by
  kernel_rfl
theorem rdh_3_0_1 (own : Ck) (ev : Int) (o : Opp) (e : RefE) (t : Int) (a0 a1 a2 : RefE) : Tree.denN (rdF [rdH own ev [a0, a1, a2] o (rhR own ev [a0, a1, a2] (some 0) 1 e t)] [refV own ev [a0, a1, a2], o.v] (refB [a0, a1, a2])) = Tree.denN (rdT own ev [a0, a1, a2] o (rdQ own ev [a0, a1, a2] o (rhR own ev [a0, a1, a2] (some 0) 1 e t)) .fail) := by
  kernel_rfl
theorem rdh_3_0_2 (own : Ck) (ev : Int) (o : Opp) (e : RefE) (t : Int) (a0 a1 a2 : RefE) : Tree.denN (rdF [rdH own ev [a0, a1, a2] o (rhR own ev [a0, a1, a2] (some 0) 2 e t)] [refV own ev [a0, a1, a2], o.v] (refB [a0, a1, a2])) = Tree.denN (rdT own ev [a0, a1, a2] o (rdQ own ev [a0, a1, a2] o (rhR own ev [a0, a1, a2] (some 0) 2 e t)) .fail) := by
  kernel_rfl
theorem rdh_3_1_0 (own : Ck) (ev : Int) (o : Opp) (e : RefE) (t : Int) (a0 a1 a2 : RefE) : Tree.denN (rdF [rdH own ev [a0, a1, a2] o (rhR own ev [a0, a1, a2] (some 1) 0 e t)] [refV own ev [a0, a1, a2], o.v] (refB [a0, a1, a2])) = Tree.denN (rdT own ev [a0, a1, a2] o (rdQ own ev [a0, a1, a2] o (rhR own ev [a0, a1, a2] (some 1) 0 e t)) .fail) := by
  kernel_rfl
theorem rdh_3_1_1 (own : Ck) (ev : Int) (o : Opp) (e : RefE) (t : Int) (a0 a1 a2 : RefE) : Tree.denN (rdF [rdH own ev [a0, a1, a2] o (rhR own ev [a0, a1, a2] (some 1) 1 e t)] [refV own ev [a0, a1, a2], o.v] (refB [a0, a1, a2])) = Tree.denN (rdT own ev [a0, a1, a2] o (rdQ own ev [a0, a1, a2] o (rhR own ev [a0, a1, a2] (some 1) 1 e t)) .fail) := by
  kernel_rfl
theorem rdh_3_1_2 (own : Ck) (ev : Int) (o : Opp) (e : RefE) (t : Int) (a0 a1 a2 : RefE) : Tree.denN (rdF [rdH own ev [a0, a1, a2] o (rhR own ev [a0, a1, a2] (some 1) 2 e t)] [refV own ev [a0, a1, a2], o.v] (refB [a0, a1, a2])) = Tree.denN (rdT own ev [a0, a1, a2] o (rdQ own ev [a0, a1, a2] o (rhR own ev [a0, a1, a2] (some 1) 2 e t)) .fail) := by
  kernel_rfl
theorem rdh_3_2_0 (own : Ck) (ev : Int) (o : Opp) (e : RefE) (t : Int) (a0 a1 a2 : RefE) : Tree.denN (rdF [rdH own ev [a0, a1, a2] o (rhR own ev [a0, a1, a2] (some 2) 0 e t)] [refV own ev [a0, a1, a2], o.v] (refB [a0, a1, a2])) = Tree.denN (rdT own ev [a0, a1, a2] o (rdQ own ev [a0, a1, a2] o (rhR own ev [a0, a1, a2] (some 2) 0 e t)) .fail) := by
  kernel_rfl
theorem rdh_3_2_1 (own : Ck) (ev : Int) (o : Opp) (e : RefE) (t : Int) (a0 a1 a2 : RefE) : Tree.denN (rdF [rdH own ev [a0, a1, a2] o (rhR own ev [a0, a1, a2] (some 2) 1 e t)] [refV own ev [a0, a1, a2], o.v] (refB [a0, a1, a2])) = Tree.denN (rdT own ev [a0, a1, a2] o (rdQ own ev [a0, a1, a2] o (rhR own ev [a0, a1, a2] (some 2) 1 e t)) .fail) := by
  kernel_rfl
theorem rdh_3_2_2 (own : Ck) (ev : Int) (o : Opp) (e : RefE) (t : Int) (a0 a1 a2 : RefE) : Tree.denN (rdF [rdH own ev [a0, a1, a2] o (rhR own ev [a0, a1, a2] (some 2) 2 e t)] [refV own ev [a0, a1, a2], o.v] (refB [a0, a1, a2])) = Tree.denN (rdT own ev [a0, a1, a2] o (rdQ own ev [a0, a1, a2] o (rhR own ev [a0, a1, a2] (some 2) 2 e t)) .fail) := by
  kernel_rfl
theorem rdx_4 (own : Ck) (ev : Int) (o : Opp) (a0 a1 a2 a3 : RefE) : Tree.denN (rdF [] [refV own ev [a0, a1, a2, a3], o.v] (refB [a0, a1, a2, a3])) = Tree.denN (rdT own ev [a0, a1, a2, a3] o .fail .fail) := by
  kernel_rfl
theorem rdn_4 (own : Ck) (ev : Int) (o : Opp) (t : Int) (a0 a1 a2 a3 : RefE) : Tree.denN (rdF [rdH own ev [a0, a1, a2, a3] o (rhN own ev [a0, a1, a2, a3] t)] [refV own ev [a0, a1, a2, a3], o.v] (refB [a0, a1, a2, a3])) = Tree.denN (rdT own ev [a0, a1, a2, a3] o (rdQ own ev [a0, a1, a2, a3] o (rhN own ev [a0, a1, a2, a3] t)) .fail) := by
  kernel_rfl
theorem rdf_4 (own : Ck) (ev : Int) (o : Opp) (a0 a1 a2 a3 : RefE) : Tree.denN (rdF [rhFi own ev [a0, a1, a2, a3] o.s (-1)] [refV own ev [a0, a1, a2, a3], o.v] (refB [a0, a1, a2, a3])) = Tree.denN (rdT own ev [a0, a1, a2, a3] o .fail (q [refV own ev [a0, a1, a2, a3], o.s.snd.v] (refB [a0, a1, a2, a3]) (.leaf (rhN own ev [a0, a1, a2, a3] 0)))) := by
  kernel_rfl
theorem rdw_4_0 (own : Ck) (ev : Int) (o : Opp) (a0 a1 a2 a3 : RefE) : Tree.denN (rdF [rhFi own ev [a0, a1, a2, a3] o.s 0, rhWo own ev [a0, a1, a2, a3] 0] [refV own ev [a0, a1, a2, a3], o.v] (refB [a0, a1, a2, a3])) = Tree.denN (rdT own ev [a0, a1, a2, a3] o .fail (q [refV own ev [a0, a1, a2, a3], o.s.snd.v] (refB [a0, a1, a2, a3]) (q [refV own ev [a0, a1, a2, a3], .int .i64 (0 : Int)] (refB [a0, a1, a2, a3]) (.leaf (rdW own ev [a0, a1, a2, a3] 0))))) := by
  kernel_rfl
theorem rdw_4_1 (own : Ck) (ev : Int) (o : Opp) (a0 a1 a2 a3 : RefE) : Tree.denN (rdF [rhFi own ev [a0, a1, a2, a3] o.s 1, rhWo own ev [a0, a1, a2, a3] 1] [refV own ev [a0, a1, a2, a3], o.v] (refB [a0, a1, a2, a3])) = Tree.denN (rdT own ev [a0, a1, a2, a3] o .fail (q [refV own ev [a0, a1, a2, a3], o.s.snd.v] (refB [a0, a1, a2, a3]) (q [refV own ev [a0, a1, a2, a3], .int .i64 (1 : Int)] (refB [a0, a1, a2, a3]) (.leaf (rdW own ev [a0, a1, a2, a3] 1))))) := by
  kernel_rfl
theorem rdw_4_2 (own : Ck) (ev : Int) (o : Opp) (a0 a1 a2 a3 : RefE) : Tree.denN (rdF [rhFi own ev [a0, a1, a2, a3] o.s 2, rhWo own ev [a0, a1, a2, a3] 2] [refV own ev [a0, a1, a2, a3], o.v] (refB [a0, a1, a2, a3])) = Tree.denN (rdT own ev [a0, a1, a2, a3] o .fail (q [refV own ev [a0, a1, a2, a3], o.s.snd.v] (refB [a0, a1, a2, a3]) (q [refV own ev [a0, a1, a2, a3], .int .i64 (2 : Int)] (refB [a0, a1, a2, a3]) (.leaf (rdW own ev [a0, a1, a2, a3] 2))))) := by
  kernel_rfl
theorem rdw_4_3 (own : Ck) (ev : Int) (o : Opp) (a0 a1 a2 a3 : RefE) : Tree.denN (rdF [rhFi own ev [a0, a1, a2, a3] o.s 3, rhWo own ev [a0, a1, a2, a3] 3] [refV own ev [a0, a1, a2, a3], o.v] (refB [a0, a1, a2, a3])) = Tree.denN (rdT own ev [a0, a1, a2, a3] o .fail (q [refV own ev [a0, a1, a2, a3], o.s.snd.v] (refB [a0, a1, a2, a3]) (q [refV own ev [a0, a1, a2, a3], .int .i64 (3 : Int)] (refB [a0, a1, a2, a3]) (.leaf (rdW own ev [a0, a1, a2, a3] 3))))) := by
  kernel_rfl
theorem rdh_4_n_0 (own : Ck) (ev : Int) (o : Opp) (e : RefE) (t : Int) (a0 a1 a2 a3 : RefE) : Tree.denN (rdF [rdH own ev [a0, a1, a2, a3] o (rhR own ev [a0, a1, a2, a3] none 0 e t)] [refV own ev [a0, a1, a2, a3], o.v] (refB [a0, a1, a2, a3])) = Tree.denN (rdT own ev [a0, a1, a2, a3] o (rdQ own ev [a0, a1, a2, a3] o (rhR own ev [a0, a1, a2, a3] none 0 e t)) .fail) := by
  kernel_rfl
theorem rdh_4_n_1 (own : Ck) (ev : Int) (o : Opp) (e : RefE) (t : Int) (a0 a1 a2 a3 : RefE) : Tree.denN (rdF [rdH own ev [a0, a1, a2, a3] o (rhR own ev [a0, a1, a2, a3] none 1 e t)] [refV own ev [a0, a1, a2, a3], o.v] (refB [a0, a1, a2, a3])) = Tree.denN (rdT own ev [a0, a1, a2, a3] o (rdQ own ev [a0, a1, a2, a3] o (rhR own ev [a0, a1, a2, a3] none 1 e t)) .fail) := by
  kernel_rfl
theorem rdh_4_n_2 (own : Ck) (ev : Int) (o : Opp) (e : RefE) (t : Int) (a0 a1 a2 a3 : RefE) : Tree.denN (rdF [rdH own ev [a0, a1, a2, a3] o (rhR own ev [a0, a1, a2, a3] none 2 e t)] [refV own ev [a0, a1, a2, a3], o.v] (refB [a0, a1, a2, a3])) = Tree.denN (rdT own ev [a0, a1, a2, a3] o (rdQ own ev [a0, a1, a2, a3] o (rhR own ev [a0, a1, a2, a3] none 2 e t)) .fail) := by
  kernel_rfl
theorem rdh_4_n_3 (own : Ck) (ev : Int) (o : Opp) (e : RefE) (t : Int) (a0 a1 a2 a3 : RefE) : Tree.denN (rdF [rdH own ev [a0, a1, a2, a3] o (rhR own ev [a0, a1, a2, a3] none 3 e t)] [refV own ev [a0, a1, a2, a3], o.v] (refB [a0, a1, a2, a3])) = Tree.denN (rdT own ev [a0, a1, a2, a3] o (rdQ own ev [a0, a1, a2, a3] o (rhR own ev [a0, a1, a2, a3] none 3 e t)) .fail) := by
  kernel_rfl
theorem rdh_4_n_4 (own : Ck) (ev : Int) (o : Opp) (e : RefE) (t : Int) (a0 a1 a2 a3 : RefE) : Tree.denN (rdF [rdH own ev [a0, a1, a2, a3] o (rhR own ev [a0, a1, a2, a3] none 4 e t)] [refV own ev [a0, a1, a2, a3], o.v] (refB [a0, a1, a2, a3])) = Tree.denN (rdT own ev [a0, a1, a2, a3] o (rdQ own ev [a0, a1, a2, a3] o (rhR own ev [a0, a1, a2, a3] none 4 e t)) .fail) := by
  kernel_rfl
theorem rdh_4_0_0 (own : Ck) (ev : Int) (o : Opp) (e : RefE) (t : Int) (a0 a1 a2 a3 : RefE) : Tree.denN (rdF [rdH own ev [a0, a1, a2, a3] o (rhR own ev [a0, a1, a2, a3] (some 0) 0 e t)] [refV own ev [a0, a1, a2, a3], o.v] (refB [a0, a1, a2, a3])) = Tree.denN (rdT own ev [a0, a1, a2, a3] o (rdQ own ev [a0, a1, a2, a3] o (rhR own ev [a0, a1, a2, a3] (some 0) 0 e t)) .fail) := by
  kernel_rfl
theorem rdh_4_0_1 (own : Ck) (ev : Int) (o : Opp) (e : RefE) (t : Int) (a0 a1 a2 a3 : RefE) : Tree.denN (rdF [rdH own ev [a0, a1, a2, a3] o (rhR own ev [a0, a1, a2, a3] (some 0) 1 e t)] [refV own ev [a0, a1, a2, a3], o.v] (refB [a0, a1, a2, a3])) = Tree.denN (rdT own ev [a0, a1, a2, a3] o (rdQ own ev [a0, a1, a2, a3] o (rhR own ev [a0, a1, a2, a3] (some 0) 1 e t)) .fail) := by
  kernel_rfl
theorem rdh_4_0_2 (own : Ck) (ev : Int) (o : Opp) (e : RefE) (t : Int) (a0 a1 a2 a3 : RefE) : Tree.denN (rdF [rdH own ev [a0, a1, a2, a3] o (rhR own ev [a0, a1, a2, a3] (some 0) 2 e t)] [refV own ev [a0, a1, a2, a3], o.v] (refB [a0, a1, a2, a3])) = Tree.denN (rdT own ev [a0, a1, a2, a3] o (rdQ own ev [a0, a1, a2, a3] o (rhR own ev [a0, a1, a2, a3] (some 0) 2 e t)) .fail) := by
  kernel_rfl
theorem rdh_4_0_3 (own : Ck) (ev : Int) (o : Opp) (e : RefE) (t : Int) (a0 a1 a2 a3 : RefE) : Tree.denN (rdF [rdH own ev [a0, a1, a2, a3] o (rhR own ev [a0, a1, a2, a3] (some 0) 3 e t)] [refV own ev [a0, a1, a2, a3], o.v] (refB [a0, a1, a2, a3])) = Tree.denN (rdT own ev [a0, a1, a2, a3] o (rdQ own ev [a0, a1, a2, a3] o (rhR own ev [a0, a1, a2, a3] (some 0) 3 e t)) .fail) := by
  kernel_rfl
theorem rdh_4_1_0 (own : Ck) (ev : Int) (o : Opp) (e : RefE) (t : Int) (a0 a1 a2 a3 : RefE) : Tree.denN (rdF [rdH own ev [a0, a1, a2, a3] o (rhR own ev [a0, a1, a2, a3] (some 1) 0 e t)] [refV own ev [a0, a1, a2, a3], o.v] (refB [a0, a1, a2, a3])) = Tree.denN (rdT own ev [a0, a1, a2, a3] o (rdQ own ev [a0, a1, a2, a3] o (rhR own ev [a0, a1, a2, a3] (some 1) 0 e t)) .fail) := by
  kernel_rfl
theorem rdh_4_1_1 (own : Ck) (ev : Int) (o : Opp) (e : RefE) (t : Int) (a0 a1 a2 a3 : RefE) : Tree.denN (rdF [rdH own ev [a0, a1, a2, a3] o (rhR own ev [a0, a1, a2, a3] (some 1) 1 e t)] [refV own ev [a0, a1, a2, a3], o.v] (refB [a0, a1, a2, a3])) = Tree.denN (rdT own ev [a0, a1, a2, a3] o (rdQ own ev [a0, a1, a2, a3] o (rhR own ev [a0, a1, a2, a3] (some 1) 1 e t)) .fail) := by
  kernel_rfl
theorem rdh_4_1_2 (own : Ck) (ev : Int) (o : Opp) (e : RefE) (t : Int) (a0 a1 a2 a3 : RefE) : Tree.denN (rdF [rdH own ev [a0, a1, a2, a3] o (rhR own ev [a0, a1, a2, a3] (some 1) 2 e t)] [refV own ev [a0, a1, a2, a3], o.v] (refB [a0, a1, a2, a3])) = Tree.denN (rdT own ev [a0, a1, a2, a3] o (rdQ own ev [a0, a1, a2, a3] o (rhR own ev [a0, a1, a2, a3] (some 1) 2 e t)) .fail) := by
  kernel_rfl
theorem rdh_4_1_3 (own : Ck) (ev : Int) (o : Opp) (e : RefE) (t : Int) (a0 a1 a2 a3 : RefE) : Tree.denN (rdF [rdH own ev [a0, a1, a2, a3] o (rhR own ev [a0, a1, a2, a3] (some 1) 3 e t)] [refV own ev [a0, a1, a2, a3], o.v] (refB [a0, a1, a2, a3])) = Tree.denN (rdT own ev [a0, a1, a2, a3] o (rdQ own ev [a0, a1, a2, a3] o (rhR own ev [a0, a1, a2, a3] (some 1) 3 e t)) .fail) := by
  kernel_rfl
theorem rdh_4_2_0 (own : Ck) (ev : Int) (o : Opp) (e : RefE) (t : Int) (a0 a1 a2 a3 : RefE) : Tree.denN (rdF [rdH own ev [a0, a1, a2, a3] o (rhR own ev [a0, a1, a2, a3] (some 2) 0 e t)] [refV own ev [a0, a1, a2, a3], o.v] (refB [a0, a1, a2, a3])) = Tree.denN (rdT own ev [a0, a1, a2, a3] o (rdQ own ev [a0, a1, a2, a3] o (rhR own ev [a0, a1, a2, a3] (some 2) 0 e t)) .fail) := by
  kernel_rfl
theorem rdh_4_2_1 (own : Ck) (ev : Int) (o : Opp) (e : RefE) (t : Int) (a0 a1 a2 a3 : RefE) : Tree.denN (rdF [rdH own ev [a0, a1, a2, a3] o (rhR own ev [a0, a1, a2, a3] (some 2) 1 e t)] [refV own ev [a0, a1, a2, a3], o.v] (refB [a0, a1, a2, a3])) = Tree.denN (rdT own ev [a0, a1, a2, a3] o (rdQ own ev [a0, a1, a2, a3] o (rhR own ev [a0, a1, a2, a3] (some 2) 1 e t)) .fail) := by
  kernel_rfl
theorem rdh_4_2_2 (own : Ck) (ev : Int) (o : Opp) (e : RefE) (t : Int) (a0 a1 a2 a3 : RefE) : Tree.denN (rdF [rdH own ev [a0, a1, a2, a3] o (rhR own ev [a0, a1, a2, a3] (some 2) 2 e t)] [refV own ev [a0, a1, a2, a3], o.v] (refB [a0, a1, a2, a3])) = Tree.denN (rdT own ev [a0, a1, a2, a3] o (rdQ own ev [a0, a1, a2, a3] o (rhR own ev [a0, a1, a2, a3] (some 2) 2 e t)) .fail) := by
  kernel_rfl
theorem rdh_4_2_3 (own : Ck) (ev : Int) (o : Opp) (e : RefE) (t : Int) (a0 a1 a2 a3 : RefE) : Tree.denN (rdF [rdH own ev [a0, a1, a2, a3] o (rhR own ev [a0, a1, a2, a3] (some 2) 3 e t)] [refV own ev [a0, a1, a2, a3], o.v] (refB [a0, a1, a2, a3])) = Tree.denN (rdT own ev [a0, a1, a2, a3] o (rdQ own ev [a0, a1, a2, a3] o (rhR own ev [a0, a1, a2, a3] (some 2) 3 e t)) .fail) := by
  kernel_rfl
theorem rdh_4_3_0 (own : Ck) (ev : Int) (o : Opp) (e : RefE) (t : Int) (a0 a1 a2 a3 : RefE) : Tree.denN (rdF [rdH own ev [a0, a1, a2, a3] o (rhR own ev [a0, a1, a2, a3] (some 3) 0 e t)] [refV own ev [a0, a1, a2, a3], o.v] (refB [a0, a1, a2, a3])) = Tree.denN (rdT own ev [a0, a1, a2, a3] o (rdQ own ev [a0, a1, a2, a3] o (rhR own ev [a0, a1, a2, a3] (some 3) 0 e t)) .fail) := by
  kernel_rfl
theorem rdh_4_3_1 (own : Ck) (ev : Int) (o : Opp) (e : RefE) (t : Int) (a0 a1 a2 a3 : RefE) : Tree.denN (rdF [rdH own ev [a0, a1, a2, a3] o (rhR own ev [a0, a1, a2, a3] (some 3) 1 e t)] [refV own ev [a0, a1, a2, a3], o.v] (refB [a0, a1, a2, a3])) = Tree.denN (rdT own ev [a0, a1, a2, a3] o (rdQ own ev [a0, a1, a2, a3] o (rhR own ev [a0, a1, a2, a3] (some 3) 1 e t)) .fail) := by
  kernel_rfl
theorem rdh_4_3_2 (own : Ck) (ev : Int) (o : Opp) (e : RefE) (t : Int) (a0 a1 a2 a3 : RefE) : Tree.denN (rdF [rdH own ev [a0, a1, a2, a3] o (rhR own ev [a0, a1, a2, a3] (some 3) 2 e t)] [refV own ev [a0, a1, a2, a3], o.v] (refB [a0, a1, a2, a3])) = Tree.denN (rdT own ev [a0, a1, a2, a3] o (rdQ own ev [a0, a1, a2, a3] o (rhR own ev [a0, a1, a2, a3] (some 3) 2 e t)) .fail) := by
  kernel_rfl
theorem rdh_4_3_3 (own : Ck) (ev : Int) (o : Opp) (e : RefE) (t : Int) (a0 a1 a2 a3 : RefE) : Tree.denN (rdF [rdH own ev [a0, a1, a2, a3] o (rhR own ev [a0, a1, a2, a3] (some 3) 3 e t)] [refV own ev [a0, a1, a2, a3], o.v] (refB [a0, a1, a2, a3])) = Tree.denN (rdT own ev [a0, a1, a2, a3] o (rdQ own ev [a0, a1, a2, a3] o (rhR own ev [a0, a1, a2, a3] (some 3) 3 e t)) .fail) := by
  kernel_rfl
theorem rdx_5 (own : Ck) (ev : Int) (o : Opp) (a0 a1 a2 a3 a4 : RefE) : Tree.denN (rdF [] [refV own ev [a0, a1, a2, a3, a4], o.v] (refB [a0, a1, a2, a3, a4])) = Tree.denN (rdT own ev [a0, a1, a2, a3, a4] o .fail .fail) := by
  kernel_rfl
theorem rdn_5 (own : Ck) (ev : Int) (o : Opp) (t : Int) (a0 a1 a2 a3 a4 : RefE) : Tree.denN (rdF [rdH own ev [a0, a1, a2, a3, a4] o (rhN own ev [a0, a1, a2, a3, a4] t)] [refV own ev [a0, a1, a2, a3, a4], o.v] (refB [a0, a1, a2, a3, a4])) = Tree.denN (rdT own ev [a0, a1, a2, a3, a4] o (rdQ own ev [a0, a1, a2, a3, a4] o (rhN own ev [a0, a1, a2, a3, a4] t)) .fail) := by
  kernel_rfl
theorem rdf_5 (own : Ck) (ev : Int) (o : Opp) (a0 a1 a2 a3 a4 : RefE) : Tree.denN (rdF [rhFi own ev [a0, a1, a2, a3, a4] o.s (-1)] [refV own ev [a0, a1, a2, a3, a4], o.v] (refB [a0, a1, a2, a3, a4])) = Tree.denN (rdT own ev [a0, a1, a2, a3, a4] o .fail (q [refV own ev [a0, a1, a2, a3, a4], o.s.snd.v] (refB [a0, a1, a2, a3, a4]) (.leaf (rhN own ev [a0, a1, a2, a3, a4] 0)))) := by
  kernel_rfl
theorem rdw_5_0 (own : Ck) (ev : Int) (o : Opp) (a0 a1 a2 a3 a4 : RefE) : Tree.denN (rdF [rhFi own ev [a0, a1, a2, a3, a4] o.s 0, rhWo own ev [a0, a1, a2, a3, a4] 0] [refV own ev [a0, a1, a2, a3, a4], o.v] (refB [a0, a1, a2, a3, a4])) = Tree.denN (rdT own ev [a0, a1, a2, a3, a4] o .fail (q [refV own ev [a0, a1, a2, a3, a4], o.s.snd.v] (refB [a0, a1, a2, a3, a4]) (q [refV own ev [a0, a1, a2, a3, a4], .int .i64 (0 : Int)] (refB [a0, a1, a2, a3, a4]) (.leaf (rdW own ev [a0, a1, a2, a3, a4] 0))))) := by
  kernel_rfl
theorem rdw_5_1 (own : Ck) (ev : Int) (o : Opp) (a0 a1 a2 a3 a4 : RefE) : Tree.denN (rdF [rhFi own ev [a0, a1, a2, a3, a4] o.s 1, rhWo own ev [a0, a1, a2, a3, a4] 1] [refV own ev [a0, a1, a2, a3, a4], o.v] (refB [a0, a1, a2, a3, a4])) = Tree.denN (rdT own ev [a0, a1, a2, a3, a4] o .fail (q [refV own ev [a0, a1, a2, a3, a4], o.s.snd.v] (refB [a0, a1, a2, a3, a4]) (q [refV own ev [a0, a1, a2, a3, a4], .int .i64 (1 : Int)] (refB [a0, a1, a2, a3, a4]) (.leaf (rdW own ev [a0, a1, a2, a3, a4] 1))))) := by
  kernel_rfl
theorem rdw_5_2 (own : Ck) (ev : Int) (o : Opp) (a0 a1 a2 a3 a4 : RefE) : Tree.denN (rdF [rhFi own ev [a0, a1, a2, a3, a4] o.s 2, rhWo own ev [a0, a1, a2, a3, a4] 2] [refV own ev [a0, a1, a2, a3, a4], o.v] (refB [a0, a1, a2, a3, a4])) = Tree.denN (rdT own ev [a0, a1, a2, a3, a4] o .fail (q [refV own ev [a0, a1, a2, a3, a4], o.s.snd.v] (refB [a0, a1, a2, a3, a4]) (q [refV own ev [a0, a1, a2, a3, a4], .int .i64 (2 : Int)] (refB [a0, a1, a2, a3, a4]) (.leaf (rdW own ev [a0, a1, a2, a3, a4] 2))))) := by
  kernel_rfl
theorem rdw_5_3 (own : Ck) (ev : Int) (o : Opp) (a0 a1 a2 a3 a4 : RefE) : Tree.denN (rdF [rhFi own ev [a0, a1, a2, a3, a4] o.s 3, rhWo own ev [a0, a1, a2, a3, a4] 3] [refV own ev [a0, a1, a2, a3, a4], o.v] (refB [a0, a1, a2, a3, a4])) = Tree.denN (rdT own ev [a0, a1, a2, a3, a4] o .fail (q [refV own ev [a0, a1, a2, a3, a4], o.s.snd.v] (refB [a0, a1, a2, a3, a4]) (q [refV own ev [a0, a1, a2, a3, a4], .int .i64 (3 : Int)] (refB [a0, a1, a2, a3, a4]) (.leaf (rdW own ev [a0, a1, a2, a3, a4] 3))))) := by
  kernel_rfl
theorem rdw_5_4 (own : Ck) (ev : Int) (o : Opp) (a0 a1 a2 a3 a4 : RefE) : Tree.denN (rdF [rhFi own ev [a0, a1, a2, a3, a4] o.s 4, rhWo own ev [a0, a1, a2, a3, a4] 4] [refV own ev [a0, a1, a2, a3, a4], o.v] (refB [a0, a1, a2, a3, a4])) = Tree.denN (rdT own ev [a0, a1, a2, a3, a4] o .fail (q [refV own ev [a0, a1, a2, a3, a4], o.s.snd.v] (refB [a0, a1, a2, a3, a4]) (q [refV own ev [a0, a1, a2, a3, a4], .int .i64 (4 : Int)] (refB [a0, a1, a2, a3, a4]) (.leaf (rdW own ev [a0, a1, a2, a3, a4] 4))))) := by
  kernel_rfl
theorem rdh_5_0_0 (own : Ck) (ev : Int) (o : Opp) (e : RefE) (t : Int) (a0 a1 a2 a3 a4 : RefE) : Tree.denN (rdF [rdH own ev [a0, a1, a2, a3, a4] o (rhR own ev [a0, a1, a2, a3, a4] (some 0) 0 e t)] [refV own ev [a0, a1, a2, a3, a4], o.v] (refB [a0, a1, a2, a3, a4])) = Tree.denN (rdT own ev [a0, a1, a2, a3, a4] o (rdQ own ev [a0, a1, a2, a3, a4] o (rhR own ev [a0, a1, a2, a3, a4] (some 0) 0 e t)) .fail) := by
  kernel_rfl
theorem rdh_5_0_1 (own : Ck) (ev : Int) (o : Opp) (e : RefE) (t : Int) (a0 a1 a2 a3 a4 : RefE) : Tree.denN (rdF [rdH own ev [a0, a1, a2, a3, a4] o (rhR own ev [a0, a1, a2, a3, a4] (some 0) 1 e t)] [refV own ev [a0, a1, a2, a3, a4], o.v] (refB [a0, a1, a2, a3, a4])) = Tree.denN (rdT own ev [a0, a1, a2, a3, a4] o (rdQ own ev [a0, a1, a2, a3, a4] o (rhR own ev [a0, a1, a2, a3, a4] (some 0) 1 e t)) .fail) := by
  kernel_rfl
theorem rdh_5_0_2 (own : Ck) (ev : Int) (o : Opp) (e : RefE) (t : Int) (a0 a1 a2 a3 a4 : RefE) : Tree.denN (rdF [rdH own ev [a0, a1, a2, a3, a4] o (rhR own ev [a0, a1, a2, a3, a4] (some 0) 2 e t)] [refV own ev [a0, a1, a2, a3, a4], o.v] (refB [a0, a1, a2, a3, a4])) = Tree.denN (rdT own ev [a0, a1, a2, a3, a4] o (rdQ own ev [a0, a1, a2, a3, a4] o (rhR own ev [a0, a1, a2, a3, a4] (some 0) 2 e t)) .fail) := by
  kernel_rfl
theorem rdh_5_0_3 (own : Ck) (ev : Int) (o : Opp) (e : RefE) (t : Int) (a0 a1 a2 a3 a4 : RefE) : Tree.denN (rdF [rdH own ev [a0, a1, a2, a3, a4] o (rhR own ev [a0, a1, a2, a3, a4] (some 0) 3 e t)] [refV own ev [a0, a1, a2, a3, a4], o.v] (refB [a0, a1, a2, a3, a4])) = Tree.denN (rdT own ev [a0, a1, a2, a3, a4] o (rdQ own ev [a0, a1, a2, a3, a4] o (rhR own ev [a0, a1, a2, a3, a4] (some 0) 3 e t)) .fail) := by
  kernel_rfl
theorem rdh_5_0_4 (own : Ck) (ev : Int) (o : Opp) (e : RefE) (t : Int) (a0 a1 a2 a3 a4 : RefE) : Tree.denN (rdF [rdH own ev [a0, a1, a2, a3, a4] o (rhR own ev [a0, a1, a2, a3, a4] (some 0) 4 e t)] [refV own ev [a0, a1, a2, a3, a4], o.v] (refB [a0, a1, a2, a3, a4])) = Tree.denN (rdT own ev [a0, a1, a2, a3, a4] o (rdQ own ev [a0, a1, a2, a3, a4] o (rhR own ev [a0, a1, a2, a3, a4] (some 0) 4 e t)) .fail) := by
  kernel_rfl
theorem rdh_5_1_0 (own : Ck) (ev : Int) (o : Opp) (e : RefE) (t : Int) (a0 a1 a2 a3 a4 : RefE) : Tree.denN (rdF [rdH own ev [a0, a1, a2, a3, a4] o (rhR own ev [a0, a1, a2, a3, a4] (some 1) 0 e t)] [refV own ev [a0, a1, a2, a3, a4], o.v] (refB [a0, a1, a2, a3, a4])) = Tree.denN (rdT own ev [a0, a1, a2, a3, a4] o (rdQ own ev [a0, a1, a2, a3, a4] o (rhR own ev [a0, a1, a2, a3, a4] (some 1) 0 e t)) .fail) := by
  kernel_rfl
theorem rdh_5_1_1 (own : Ck) (ev : Int) (o : Opp) (e : RefE) (t : Int) (a0 a1 a2 a3 a4 : RefE) : Tree.denN (rdF [rdH own ev [a0, a1, a2, a3, a4] o (rhR own ev [a0, a1, a2, a3, a4] (some 1) 1 e t)] [refV own ev [a0, a1, a2, a3, a4], o.v] (refB [a0, a1, a2, a3, a4])) = Tree.denN (rdT own ev [a0, a1, a2, a3, a4] o (rdQ own ev [a0, a1, a2, a3, a4] o (rhR own ev [a0, a1, a2, a3, a4] (some 1) 1 e t)) .fail) := by
  kernel_rfl
theorem rdh_5_1_2 (own : Ck) (ev : Int) (o : Opp) (e : RefE) (t : Int) (a0 a1 a2 a3 a4 : RefE) : Tree.denN (rdF [rdH own ev [a0, a1, a2, a3, a4] o (rhR own ev [a0, a1, a2, a3, a4] (some 1) 2 e t)] [refV own ev [a0, a1, a2, a3, a4], o.v] (refB [a0, a1, a2, a3, a4])) = Tree.denN (rdT own ev [a0, a1, a2, a3, a4] o (rdQ own ev [a0, a1, a2, a3, a4] o (rhR own ev [a0, a1, a2, a3, a4] (some 1) 2 e t)) .fail) := by
  kernel_rfl
theorem rdh_5_1_3 (own : Ck) (ev : Int) (o : Opp) (e : RefE) (t : Int) (a0 a1 a2 a3 a4 : RefE) : Tree.denN (rdF [rdH own ev [a0, a1, a2, a3, a4] o (rhR own ev [a0, a1, a2, a3, a4] (some 1) 3 e t)] [refV own ev [a0, a1, a2, a3, a4], o.v] (refB [a0, a1, a2, a3, a4])) = Tree.denN (rdT own ev [a0, a1, a2, a3, a4] o (rdQ own ev [a0, a1, a2, a3, a4] o (rhR own ev [a0, a1, a2, a3, a4] (some 1) 3 e t)) .fail) := by
  kernel_rfl
theorem rdh_5_1_4 (own : Ck) (ev : Int) (o : Opp) (e : RefE) (t : Int) (a0 a1 a2 a3 a4 : RefE) : Tree.denN (rdF [rdH own ev [a0, a1, a2, a3, a4] o (rhR own ev [a0, a1, a2, a3, a4] (some 1) 4 e t)] [refV own ev [a0, a1, a2, a3, a4], o.v] (refB [a0, a1, a2, a3, a4])) = Tree.denN (rdT own ev [a0, a1, a2, a3, a4] o (rdQ own ev [a0, a1, a2, a3, a4] o (rhR own ev [a0, a1, a2, a3, a4] (some 1) 4 e t)) .fail) := by
  kernel_rfl
theorem rdh_5_2_0 (own : Ck) (ev : Int) (o : Opp) (e : RefE) (t : Int) (a0 a1 a2 a3 a4 : RefE) : Tree.denN (rdF [rdH own ev [a0, a1, a2, a3, a4] o (rhR own ev [a0, a1, a2, a3, a4] (some 2) 0 e t)] [refV own ev [a0, a1, a2, a3, a4], o.v] (refB [a0, a1, a2, a3, a4])) = Tree.denN (rdT own ev [a0, a1, a2, a3, a4] o (rdQ own ev [a0, a1, a2, a3, a4] o (rhR own ev [a0, a1, a2, a3, a4] (some 2) 0 e t)) .fail) := by
  kernel_rfl
theorem rdh_5_2_1 (own : Ck) (ev : Int) (o : Opp) (e : RefE) (t : Int) (a0 a1 a2 a3 a4 : RefE) : Tree.denN (rdF [rdH own ev [a0, a1, a2, a3, a4] o (rhR own ev [a0, a1, a2, a3, a4] (some 2) 1 e t)] [refV own ev [a0, a1, a2, a3, a4], o.v] (refB [a0, a1, a2, a3, a4])) = Tree.denN (rdT own ev [a0, a1, a2, a3, a4] o (rdQ own ev [a0, a1, a2, a3, a4] o (rhR own ev [a0, a1, a2, a3, a4] (some 2) 1 e t)) .fail) := by
  kernel_rfl
theorem rdh_5_2_2 (own : Ck) (ev : Int) (o : Opp) (e : RefE) (t : Int) (a0 a1 a2 a3 a4 : RefE) : Tree.denN (rdF [rdH own ev [a0, a1, a2, a3, a4] o (rhR own ev [a0, a1, a2, a3, a4] (some 2) 2 e t)] [refV own ev [a0, a1, a2, a3, a4], o.v] (refB [a0, a1, a2, a3, a4])) = Tree.denN (rdT own ev [a0, a1, a2, a3, a4] o (rdQ own ev [a0, a1, a2, a3, a4] o (rhR own ev [a0, a1, a2, a3, a4] (some 2) 2 e t)) .fail) := by
  kernel_rfl
theorem rdh_5_2_3 (own : Ck) (ev : Int) (o : Opp) (e : RefE) (t : Int) (a0 a1 a2 a3 a4 : RefE) : Tree.denN (rdF [rdH own ev [a0, a1, a2, a3, a4] o (rhR own ev [a0, a1, a2, a3, a4] (some 2) 3 e t)] [refV own ev [a0, a1, a2, a3, a4], o.v] (refB [a0, a1, a2, a3, a4])) = Tree.denN (rdT own ev [a0, a1, a2, a3, a4] o (rdQ own ev [a0, a1, a2, a3, a4] o (rhR own ev [a0, a1, a2, a3, a4] (some 2) 3 e t)) .fail) := by
  kernel_rfl
theorem rdh_5_2_4 (own : Ck) (ev : Int) (o : Opp) (e : RefE) (t : Int) (a0 a1 a2 a3 a4 : RefE) : Tree.denN (rdF [rdH own ev [a0, a1, a2, a3, a4] o (rhR own ev [a0, a1, a2, a3, a4] (some 2) 4 e t)] [refV own ev [a0, a1, a2, a3, a4], o.v] (refB [a0, a1, a2, a3, a4])) = Tree.denN (rdT own ev [a0, a1, a2, a3, a4] o (rdQ own ev [a0, a1, a2, a3, a4] o (rhR own ev [a0, a1, a2, a3, a4] (some 2) 4 e t)) .fail) := by
  kernel_rfl
theorem rdh_5_3_0 (own : Ck) (ev : Int) (o : Opp) (e : RefE) (t : Int) (a0 a1 a2 a3 a4 : RefE) : Tree.denN (rdF [rdH own ev [a0, a1, a2, a3, a4] o (rhR own ev [a0, a1, a2, a3, a4] (some 3) 0 e t)] [refV own ev [a0, a1, a2, a3, a4], o.v] (refB [a0, a1, a2, a3, a4])) = Tree.denN (rdT own ev [a0, a1, a2, a3, a4] o (rdQ own ev [a0, a1, a2, a3, a4] o (rhR own ev [a0, a1, a2, a3, a4] (some 3) 0 e t)) .fail) := by
  kernel_rfl
theorem rdh_5_3_1 (own : Ck) (ev : Int) (o : Opp) (e : RefE) (t : Int) (a0 a1 a2 a3 a4 : RefE) : Tree.denN (rdF [rdH own ev [a0, a1, a2, a3, a4] o (rhR own ev [a0, a1, a2, a3, a4] (some 3) 1 e t)] [refV own ev [a0, a1, a2, a3, a4], o.v] (refB [a0, a1, a2, a3, a4])) = Tree.denN (rdT own ev [a0, a1, a2, a3, a4] o (rdQ own ev [a0, a1, a2, a3, a4] o (rhR own ev [a0, a1, a2, a3, a4] (some 3) 1 e t)) .fail) := by
  kernel_rfl
theorem rdh_5_3_2 (own : Ck) (ev : Int) (o : Opp) (e : RefE) (t : Int) (a0 a1 a2 a3 a4 : RefE) : Tree.denN (rdF [rdH own ev [a0, a1, a2, a3, a4] o (rhR own ev [a0, a1, a2, a3, a4] (some 3) 2 e t)] [refV own ev [a0, a1, a2, a3, a4], o.v] (refB [a0, a1, a2, a3, a4])) = Tree.denN (rdT own ev [a0, a1, a2, a3, a4] o (rdQ own ev [a0, a1, a2, a3, a4] o (rhR own ev [a0, a1, a2, a3, a4] (some 3) 2 e t)) .fail) := by
  kernel_rfl
theorem rdh_5_3_3 (own : Ck) (ev : Int) (o : Opp) (e : RefE) (t : Int) (a0 a1 a2 a3 a4 : RefE) : Tree.denN (rdF [rdH own ev [a0, a1, a2, a3, a4] o (rhR own ev [a0, a1, a2, a3, a4] (some 3) 3 e t)] [refV own ev [a0, a1, a2, a3, a4], o.v] (refB [a0, a1, a2, a3, a4])) = Tree.denN (rdT own ev [a0, a1, a2, a3, a4] o (rdQ own ev [a0, a1, a2, a3, a4] o (rhR own ev [a0, a1, a2, a3, a4] (some 3) 3 e t)) .fail) := by
  kernel_rfl
theorem rdh_5_3_4 (own : Ck) (ev : Int) (o : Opp) (e : RefE) (t : Int) (a0 a1 a2 a3 a4 : RefE) : Tree.denN (rdF [rdH own ev [a0, a1, a2, a3, a4] o (rhR own ev [a0, a1, a2, a3, a4] (some 3) 4 e t)] [refV own ev [a0, a1, a2, a3, a4], o.v] (refB [a0, a1, a2, a3, a4])) = Tree.denN (rdT own ev [a0, a1, a2, a3, a4] o (rdQ own ev [a0, a1, a2, a3, a4] o (rhR own ev [a0, a1, a2, a3, a4] (some 3) 4 e t)) .fail) := by
  kernel_rfl
theorem rdh_5_4_0 (own : Ck) (ev : Int) (o : Opp) (e : RefE) (t : Int) (a0 a1 a2 a3 a4 : RefE) : Tree.denN (rdF [rdH own ev [a0, a1, a2, a3, a4] o (rhR own ev [a0, a1, a2, a3, a4] (some 4) 0 e t)] [refV own ev [a0, a1, a2, a3, a4], o.v] (refB [a0, a1, a2, a3, a4])) = Tree.denN (rdT own ev [a0, a1, a2, a3, a4] o (rdQ own ev [a0, a1, a2, a3, a4] o (rhR own ev [a0, a1, a2, a3, a4] (some 4) 0 e t)) .fail) := by
  kernel_rfl
theorem rdh_5_4_1 (own : Ck) (ev : Int) (o : Opp) (e : RefE) (t : Int) (a0 a1 a2 a3 a4 : RefE) : Tree.denN (rdF [rdH own ev [a0, a1, a2, a3, a4] o (rhR own ev [a0, a1, a2, a3, a4] (some 4) 1 e t)] [refV own ev [a0, a1, a2, a3, a4], o.v] (refB [a0, a1, a2, a3, a4])) = Tree.denN (rdT own ev [a0, a1, a2, a3, a4] o (rdQ own ev [a0, a1, a2, a3, a4] o (rhR own ev [a0, a1, a2, a3, a4] (some 4) 1 e t)) .fail) := by
  kernel_rfl
theorem rdh_5_4_2 (own : Ck) (ev : Int) (o : Opp) (e : RefE) (t : Int) (a0 a1 a2 a3 a4 : RefE) : Tree.denN (rdF [rdH own ev [a0, a1, a2, a3, a4] o (rhR own ev [a0, a1, a2, a3, a4] (some 4) 2 e t)] [refV own ev [a0, a1, a2, a3, a4], o.v] (refB [a0, a1, a2, a3, a4])) = Tree.denN (rdT own ev [a0, a1, a2, a3, a4] o (rdQ own ev [a0, a1, a2, a3, a4] o (rhR own ev [a0, a1, a2, a3, a4] (some 4) 2 e t)) .fail) := by
  kernel_rfl
theorem rdh_5_4_3 (own : Ck) (ev : Int) (o : Opp) (e : RefE) (t : Int) (a0 a1 a2 a3 a4 : RefE) : Tree.denN (rdF [rdH own ev [a0, a1, a2, a3, a4] o (rhR own ev [a0, a1, a2, a3, a4] (some 4) 3 e t)] [refV own ev [a0, a1, a2, a3, a4], o.v] (refB [a0, a1, a2, a3, a4])) = Tree.denN (rdT own ev [a0, a1, a2, a3, a4] o (rdQ own ev [a0, a1, a2, a3, a4] o (rhR own ev [a0, a1, a2, a3, a4] (some 4) 3 e t)) .fail) := by
  kernel_rfl
theorem rdh_5_4_4 (own : Ck) (ev : Int) (o : Opp) (e : RefE) (t : Int) (a0 a1 a2 a3 a4 : RefE) : Tree.denN (rdF [rdH own ev [a0, a1, a2, a3, a4] o (rhR own ev [a0, a1, a2, a3, a4] (some 4) 4 e t)] [refV own ev [a0, a1, a2, a3, a4], o.v] (refB [a0, a1, a2, a3, a4])) = Tree.denN (rdT own ev [a0, a1, a2, a3, a4] o (rdQ own ev [a0, a1, a2, a3, a4] o (rhR own ev [a0, a1, a2, a3, a4] (some 4) 4 e t)) .fail) := by
  kernel_rfl
end Go.Proofs.Ytgdalboilghciaa
