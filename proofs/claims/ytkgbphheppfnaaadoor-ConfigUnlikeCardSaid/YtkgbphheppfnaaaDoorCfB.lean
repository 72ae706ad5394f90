/- Layer 17: a configuration printed, made the program's own, and read. The conditions stand in the specifications. -/
import Derived.Test.YtkgbphheppfnaaaDoorCfA
import Derived.Test.YtkgbphheppfnaaaDoorRxB
import Derived.Lib.SplitLaws
import Derived.Lib.AtoiAllCases
set_option linter.unusedSimpArgs false
set_option linter.unusedVariables false
set_option linter.unnecessarySimpa false
set_option linter.unusedSectionVars false
set_option maxRecDepth 100000
set_option linter.unusedSimpArgs false
set_option linter.unusedVariables false
namespace Go.Proofs.YtkgbphheppfnaaaDoor
open Go.Rx
theorem rPort_k : (⟨#[OfNat.ofNat 112, OfNat.ofNat 111, OfNat.ofNat 114, OfNat.ofNat 116, OfNat.ofNat 32]⟩ : ByteArray) = bytesOf [112, 111, 114, 116, 32] := rfl
theorem r32_k : (⟨#[OfNat.ofNat 32]⟩ : ByteArray) = bytesOf [32] := rfl
theorem rClock_k : (⟨#[OfNat.ofNat 99, OfNat.ofNat 108, OfNat.ofNat 111, OfNat.ofNat 99, OfNat.ofNat 107, OfNat.ofNat 32]⟩ : ByteArray) = bytesOf [99, 108, 111, 99, 107, 32] := rfl
theorem rDomain_k : (⟨#[OfNat.ofNat 10, OfNat.ofNat 100, OfNat.ofNat 111, OfNat.ofNat 109, OfNat.ofNat 97, OfNat.ofNat 105, OfNat.ofNat 110, OfNat.ofNat 32]⟩ : ByteArray) = bytesOf [10, 100, 111, 109, 97, 105, 110, 32] := rfl
theorem rPriority_k : (⟨#[OfNat.ofNat 10, OfNat.ofNat 112, OfNat.ofNat 114, OfNat.ofNat 105, OfNat.ofNat 111, OfNat.ofNat 114, OfNat.ofNat 105, OfNat.ofNat 116, OfNat.ofNat 121, OfNat.ofNat 32]⟩ : ByteArray) = bytesOf [10, 112, 114, 105, 111, 114, 105, 116, 121, 32] := rfl
theorem rClass_k : (⟨#[OfNat.ofNat 10, OfNat.ofNat 99, OfNat.ofNat 108, OfNat.ofNat 97, OfNat.ofNat 115, OfNat.ofNat 115, OfNat.ofNat 32]⟩ : ByteArray) = bytesOf [10, 99, 108, 97, 115, 115, 32] := rfl
theorem rAccuracy_k : (⟨#[OfNat.ofNat 10, OfNat.ofNat 97, OfNat.ofNat 99, OfNat.ofNat 99, OfNat.ofNat 117, OfNat.ofNat 114, OfNat.ofNat 97, OfNat.ofNat 99, OfNat.ofNat 121, OfNat.ofNat 32]⟩ : ByteArray) = bytesOf [10, 97, 99, 99, 117, 114, 97, 99, 121, 32] := rfl
theorem rVariance_k : (⟨#[OfNat.ofNat 10, OfNat.ofNat 118, OfNat.ofNat 97, OfNat.ofNat 114, OfNat.ofNat 105, OfNat.ofNat 97, OfNat.ofNat 110, OfNat.ofNat 99, OfNat.ofNat 101, OfNat.ofNat 32]⟩ : ByteArray) = bytesOf [10, 118, 97, 114, 105, 97, 110, 99, 101, 32] := rfl
theorem rPpb_k : (⟨#[OfNat.ofNat 10, OfNat.ofNat 112, OfNat.ofNat 112, OfNat.ofNat 98, OfNat.ofNat 32]⟩ : ByteArray) = bytesOf [10, 112, 112, 98, 32] := rfl
theorem rSlave_k : (⟨#[OfNat.ofNat 115, OfNat.ofNat 108, OfNat.ofNat 97, OfNat.ofNat 118, OfNat.ofNat 101, OfNat.ofNat 10]⟩ : ByteArray) = bytesOf [115, 108, 97, 118, 101, 10] := rfl
abbrev plG : List (Nat × Rx.Spec) := [(34, numS)]
theorem plG_ok : GammaOK P plG := .cons num_ok (.nil P)
def plS : Rx.Spec := fun a b => match a, b with
  | [.agg [.int .i64 e, .int .i64 o, .int .i64 k, .int .i64 x, .int .i64 y, .int .i64 z]], [] => .need (potI ⟨e, o, k, ⟨x, y, z⟩⟩) (.leaf ⟨.str (bytesOf (prP ⟨e, o, k, ⟨x, y, z⟩⟩)), [], []⟩)
  | _, _ => .fail
theorem pl_ok : SpecOK P 35 plS := by
  refine specOK_fast plG_ok hm (Λ := loopsOf []) Tryd.func35 (by kernel_rfl) (LoopsOK.nil (by kernel_rfl)) ?_
  intro args bs r h
  unfold plS at h
  split at h
  · rename_i e o k x y z
    rw [den_need, denLf] at h
    obtain ⟨hI, h⟩ := h
    cases h
    rw [show (fFn P (specsOf plG) (loopsOf []) Tryd.f35 [.agg [.int .i64 e, .int .i64 o, .int .i64 k, .int .i64 x, .int .i64 y, .int .i64 z]] []).denN = Tree.denN (Tree.ite (inI e) (Tree.ite (decide (5 + (bytesOf (itoL e)).size ≤ 9223372036854775807)) (Tree.ite (decide ((({ data := #[OfNat.ofNat 112, OfNat.ofNat 111, OfNat.ofNat 114, OfNat.ofNat 116, OfNat.ofNat 32] } : ByteArray) ++ bytesOf (itoL e)).size + 1 ≤ 9223372036854775807)) (Tree.ite (inI o) (Tree.ite (decide ((({ data := #[OfNat.ofNat 112, OfNat.ofNat 111, OfNat.ofNat 114, OfNat.ofNat 116, OfNat.ofNat 32] } : ByteArray) ++ bytesOf (itoL e) ++ ({ data := #[OfNat.ofNat 32] } : ByteArray)).size + (bytesOf (itoL o)).size ≤ 9223372036854775807)) (Tree.ite (decide ((({ data := #[OfNat.ofNat 112, OfNat.ofNat 111, OfNat.ofNat 114, OfNat.ofNat 116, OfNat.ofNat 32] } : ByteArray) ++ bytesOf (itoL e) ++ ({ data := #[OfNat.ofNat 32] } : ByteArray) ++ bytesOf (itoL o)).size + 1 ≤ 9223372036854775807)) (Tree.ite (inI k) (Tree.ite (decide ((({ data := #[OfNat.ofNat 112, OfNat.ofNat 111, OfNat.ofNat 114, OfNat.ofNat 116, OfNat.ofNat 32] } : ByteArray) ++ bytesOf (itoL e) ++ ({ data := #[OfNat.ofNat 32] } : ByteArray) ++ bytesOf (itoL o) ++ ({ data := #[OfNat.ofNat 32] } : ByteArray)).size + (bytesOf (itoL k)).size ≤ 9223372036854775807)) (Tree.ite (decide ((({ data := #[OfNat.ofNat 112, OfNat.ofNat 111, OfNat.ofNat 114, OfNat.ofNat 116, OfNat.ofNat 32] } : ByteArray) ++ bytesOf (itoL e) ++ ({ data := #[OfNat.ofNat 32] } : ByteArray) ++ bytesOf (itoL o) ++ ({ data := #[OfNat.ofNat 32] } : ByteArray) ++ bytesOf (itoL k)).size + 1 ≤ 9223372036854775807)) (Tree.ite (inI x) (Tree.ite (decide ((({ data := #[OfNat.ofNat 112, OfNat.ofNat 111, OfNat.ofNat 114, OfNat.ofNat 116, OfNat.ofNat 32] } : ByteArray) ++ bytesOf (itoL e) ++ ({ data := #[OfNat.ofNat 32] } : ByteArray) ++ bytesOf (itoL o) ++ ({ data := #[OfNat.ofNat 32] } : ByteArray) ++ bytesOf (itoL k) ++ ({ data := #[OfNat.ofNat 32] } : ByteArray)).size + (bytesOf (itoL x)).size ≤ 9223372036854775807)) (Tree.ite (decide ((({ data := #[OfNat.ofNat 112, OfNat.ofNat 111, OfNat.ofNat 114, OfNat.ofNat 116, OfNat.ofNat 32] } : ByteArray) ++ bytesOf (itoL e) ++ ({ data := #[OfNat.ofNat 32] } : ByteArray) ++ bytesOf (itoL o) ++ ({ data := #[OfNat.ofNat 32] } : ByteArray) ++ bytesOf (itoL k) ++ ({ data := #[OfNat.ofNat 32] } : ByteArray) ++ bytesOf (itoL x)).size + 1 ≤ 9223372036854775807)) (Tree.ite (inI y) (Tree.ite (decide ((({ data := #[OfNat.ofNat 112, OfNat.ofNat 111, OfNat.ofNat 114, OfNat.ofNat 116, OfNat.ofNat 32] } : ByteArray) ++ bytesOf (itoL e) ++ ({ data := #[OfNat.ofNat 32] } : ByteArray) ++ bytesOf (itoL o) ++ ({ data := #[OfNat.ofNat 32] } : ByteArray) ++ bytesOf (itoL k) ++ ({ data := #[OfNat.ofNat 32] } : ByteArray) ++ bytesOf (itoL x) ++ ({ data := #[OfNat.ofNat 32] } : ByteArray)).size + (bytesOf (itoL y)).size ≤ 9223372036854775807)) (Tree.ite (decide ((({ data := #[OfNat.ofNat 112, OfNat.ofNat 111, OfNat.ofNat 114, OfNat.ofNat 116, OfNat.ofNat 32] } : ByteArray) ++ bytesOf (itoL e) ++ ({ data := #[OfNat.ofNat 32] } : ByteArray) ++ bytesOf (itoL o) ++ ({ data := #[OfNat.ofNat 32] } : ByteArray) ++ bytesOf (itoL k) ++ ({ data := #[OfNat.ofNat 32] } : ByteArray) ++ bytesOf (itoL x) ++ ({ data := #[OfNat.ofNat 32] } : ByteArray) ++ bytesOf (itoL y)).size + 1 ≤ 9223372036854775807)) (Tree.ite (inI z) (Tree.ite (decide ((({ data := #[OfNat.ofNat 112, OfNat.ofNat 111, OfNat.ofNat 114, OfNat.ofNat 116, OfNat.ofNat 32] } : ByteArray) ++ bytesOf (itoL e) ++ ({ data := #[OfNat.ofNat 32] } : ByteArray) ++ bytesOf (itoL o) ++ ({ data := #[OfNat.ofNat 32] } : ByteArray) ++ bytesOf (itoL k) ++ ({ data := #[OfNat.ofNat 32] } : ByteArray) ++ bytesOf (itoL x) ++ ({ data := #[OfNat.ofNat 32] } : ByteArray) ++ bytesOf (itoL y) ++ ({ data := #[OfNat.ofNat 32] } : ByteArray)).size + (bytesOf (itoL z)).size ≤ 9223372036854775807)) (Tree.ite (decide ((({ data := #[OfNat.ofNat 112, OfNat.ofNat 111, OfNat.ofNat 114, OfNat.ofNat 116, OfNat.ofNat 32] } : ByteArray) ++ bytesOf (itoL e) ++ ({ data := #[OfNat.ofNat 32] } : ByteArray) ++ bytesOf (itoL o) ++ ({ data := #[OfNat.ofNat 32] } : ByteArray) ++ bytesOf (itoL k) ++ ({ data := #[OfNat.ofNat 32] } : ByteArray) ++ bytesOf (itoL x) ++ ({ data := #[OfNat.ofNat 32] } : ByteArray) ++ bytesOf (itoL y) ++ ({ data := #[OfNat.ofNat 32] } : ByteArray) ++ bytesOf (itoL z)).size + 1 ≤ 9223372036854775807)) (Tree.leaf { v := V.str (({ data := #[OfNat.ofNat 112, OfNat.ofNat 111, OfNat.ofNat 114, OfNat.ofNat 116, OfNat.ofNat 32] } : ByteArray) ++ bytesOf (itoL e) ++ ({ data := #[OfNat.ofNat 32] } : ByteArray) ++ bytesOf (itoL o) ++ ({ data := #[OfNat.ofNat 32] } : ByteArray) ++ bytesOf (itoL k) ++ ({ data := #[OfNat.ofNat 32] } : ByteArray) ++ bytesOf (itoL x) ++ ({ data := #[OfNat.ofNat 32] } : ByteArray) ++ bytesOf (itoL y) ++ ({ data := #[OfNat.ofNat 32] } : ByteArray) ++ bytesOf (itoL z) ++ ({ data := #[OfNat.ofNat 10] } : ByteArray)), upd := [], new := [] }) Tree.fail) Tree.fail) Tree.fail) Tree.fail) Tree.fail) Tree.fail) Tree.fail) Tree.fail) Tree.fail) Tree.fail) Tree.fail) Tree.fail) Tree.fail) Tree.fail) Tree.fail) Tree.fail) Tree.fail) Tree.fail) from by kernel_rfl]
    simp only [potI, Bool.and_eq_true] at hI
    obtain ⟨⟨⟨⟨⟨i1, i2⟩, i3⟩, i4⟩, i5⟩, i6⟩ := hI
    have l1 := itoL_len i1
    have l2 := itoL_len i2
    have l3 := itoL_len i3
    have l4 := itoL_len i4
    have l5 := itoL_len i5
    have l6 := itoL_len i6
    simp only [rPort_k, r32_k, rClock_k, rDomain_k, rPriority_k, rClass_k, rAccuracy_k, rVariance_k, rPpb_k, rSlave_k, c10_k, bytesOf_append]
    simp only [denN_ite, denN_leaf, denN_fail, bytesOf_size, List.length_append, List.length_cons, List.length_nil, i1, i2, i3, i4, i5, i6, if_true]
    iterate 12 rw [if_pos (by rw [decide_eq_true_eq]; omega)]
    simp only [prP, potW, lineW, cPort, List.append_assoc, List.cons_append, List.nil_append, List.append_nil]
  · simp [den_fail] at h
def cfV (c : Cfh) (p : V) : List V := [V.int .u8 c.id.b0, V.int .u8 c.id.b1, V.int .u8 c.id.b2, V.int .u8 c.id.b3, V.int .u8 c.id.b4, V.int .u8 c.id.b5, V.int .u8 c.id.b6, V.int .u8 c.id.b7, V.int .i64 c.dom, V.int .i64 c.p1, V.int .i64 c.p2, V.int .i64 c.q.cl, V.int .i64 c.q.ac, V.int .i64 c.q.va, V.int .i64 c.ppb, V.bool c.sl, p]
theorem cfV_eq (c : Cfh) (p : V) : c.vs ++ [p] = cfV c p := rfl
theorem rp2_round (s : ByteArray) (c : Cfh) (n : Nat) (i : Int) (rs : List (List V)) : (evRound P (specsOf [(35, plS)]) (loopsOf []) 68 [1, 3, 4] [3] (loopAt Tryd.f12 0) [.ptr 0 0 0 0, .str s, .int .i64 i] [.cells (cfV c (.sl 1 0 0 6 n none)), .rows poK rs]).den = Tree.den (Tree.ite (decide (i < (↑n : Int))) (Tree.ite (decide (0 ≤ i) && decide (i < (↑n : Int))) (Tree.ite (decide (0 + i.toNat < rs.length)) (Tree.ite (potI { ev := (V.toInt ((rs.getD (0 + i.toNat) []).getD 0 V.any)), of_ := (V.toInt ((rs.getD (0 + i.toNat) []).getD 1 V.any)), ask := (V.toInt ((rs.getD (0 + i.toNat) []).getD 2 V.any)), pa := { mn := (V.toInt ((rs.getD (0 + i.toNat) []).getD 3 V.any)), mx := (V.toInt ((rs.getD (0 + i.toNat) []).getD 4 V.any)), gr := (V.toInt ((rs.getD (0 + i.toNat) []).getD 5 V.any)) } }) (Tree.ite (decide (s.size + (bytesOf (prP { ev := (V.toInt ((rs.getD (0 + i.toNat) []).getD 0 V.any)), of_ := (V.toInt ((rs.getD (0 + i.toNat) []).getD 1 V.any)), ask := (V.toInt ((rs.getD (0 + i.toNat) []).getD 2 V.any)), pa := { mn := (V.toInt ((rs.getD (0 + i.toNat) []).getD 3 V.any)), mx := (V.toInt ((rs.getD (0 + i.toNat) []).getD 4 V.any)), gr := (V.toInt ((rs.getD (0 + i.toNat) []).getD 5 V.any)) } })).size ≤ 9223372036854775807)) (Tree.leaf { e := Ex.nrm, vs := [V.ptr 0 0 0 0, V.str (s ++ bytesOf (prP { ev := (V.toInt ((rs.getD (0 + i.toNat) []).getD 0 V.any)), of_ := (V.toInt ((rs.getD (0 + i.toNat) []).getD 1 V.any)), ask := (V.toInt ((rs.getD (0 + i.toNat) []).getD 2 V.any)), pa := { mn := (V.toInt ((rs.getD (0 + i.toNat) []).getD 3 V.any)), mx := (V.toInt ((rs.getD (0 + i.toNat) []).getD 4 V.any)), gr := (V.toInt ((rs.getD (0 + i.toNat) []).getD 5 V.any)) } })), V.int IntKind.i64 (IntKind.i64.wrap (i + 1))], upd := [none, none], new := [] }) Tree.fail) Tree.fail) Tree.fail) Tree.fail) (Tree.leaf { e := Ex.exit 0, vs := [V.str s], upd := [none, none], new := [] })) := by
  kernel_rfl
abbrev rqG : List (Nat × Rx.Spec) := [(35, plS)]
theorem rqG_ok : GammaOK P rqG := .cons pl_ok (.nil P)
theorem rq_all {n : Nat} {c : Cfh} {rs : List (List V)} (hn : n = rs.length) (hn2 : n ≤ 1000) : ∀ (rest : List Pot) (k : Nat) (s : ByteArray), (pots rs).drop k = rest → k + rest.length = n → rest.all potI = true → s.size + 137 * rest.length ≤ 100000000 →
    (loopN P (specsOf rqG) (loopsOf []) 68 [1, 3, 4] [3] (loopAt Tryd.f12 0) (rest.length + 1) [.ptr 0 0 0 0, .str s, .int .i64 k] [.cells (cfV c (.sl 1 0 0 6 n none)), .rows poK rs]).den = some ⟨.exit 0, [.str (s ++ bytesOf (prPs rest))], [none, none], []⟩ := by
  intro rest
  induction rest with
  | nil =>
    intro k s hr hk _ _
    have hx := rp2_round s c n k rs
    rw [decide_eq_false (show ¬ (k : Int) < (n : Int) by simp at hk; omega)] at hx
    rw [prPs, app_nil]
    exact loopN_end hx (by show Ex.exit 0 ≠ Ex.nrm; decide)
  | cons x rest ih =>
    intro k s hr hk hall hsz
    simp only [List.length_cons] at hk hsz
    simp only [List.all_cons, Bool.and_eq_true] at hall
    obtain ⟨hx0, hall⟩ := hall
    obtain ⟨hx, hd⟩ := drop_po (d := potOf []) hr
    rw [pots_get] at hx
    have e0 : V.toInt ((rs.getD k []).getD 0 V.any) = x.ev := by rw [← hx]; rfl
    have e1 : V.toInt ((rs.getD k []).getD 1 V.any) = x.of_ := by rw [← hx]; rfl
    have e2 : V.toInt ((rs.getD k []).getD 2 V.any) = x.ask := by rw [← hx]; rfl
    have e3 : V.toInt ((rs.getD k []).getD 3 V.any) = x.pa.mn := by rw [← hx]; rfl
    have e4 : V.toInt ((rs.getD k []).getD 4 V.any) = x.pa.mx := by rw [← hx]; rfl
    have e5 : V.toInt ((rs.getD k []).getD 5 V.any) = x.pa.gr := by rw [← hx]; rfl
    have st := rp2_round s c n k rs
    have w6 : IntKind.i64.wrap ((k : Int) + 1) = ((k + 1 : Nat) : Int) := by rw [wrap64_id (by omega) (by omega)]; omega
    have eta : (⟨x.ev, x.of_, x.ask, ⟨x.pa.mn, x.pa.mx, x.pa.gr⟩⟩ : Pot) = x := rfl
    have hl := prP_len hx0
    simp only [Nat.zero_add, Int.toNat_natCast, e0, e1, e2, e3, e4, e5, w6, eta, hx0, bytesOf_size] at st
    rw [decide_eq_true (show (k : Int) < (n : Int) by omega), decide_eq_true (show (0 : Int) ≤ k by omega), decide_eq_true (show k < rs.length by omega), decide_eq_true (show s.size + (prP x).length ≤ 9223372036854775807 by omega)] at st
    have ih' := ih (k + 1) (s ++ bytesOf (prP x)) hd (by omega) hall (by rw [ByteArray.size_append, bytesOf_size]; omega)
    rw [show s ++ bytesOf (prPs (x :: rest)) = (s ++ bytesOf (prP x)) ++ bytesOf (prPs rest) by rw [ByteArray.append_assoc, bytesOf_append]; rfl]
    have st' : (evRound P (specsOf rqG) (loopsOf []) 68 [1, 3, 4] [3] (loopAt Tryd.f12 0) [.ptr 0 0 0 0, .str s, .int .i64 k] [.cells (cfV c (.sl 1 0 0 6 n none)), .rows poK rs]).den = some ⟨.nrm, [.ptr 0 0 0 0, .str (s ++ bytesOf (prP x)), .int .i64 ((k + 1 : Nat) : Int)], [none, none], []⟩ := by
      refine st.trans ?_
      rfl
    clear st
    refine loopN_step st' rfl (vals' := [.ptr 0 0 0 0, .str (s ++ bytesOf (prP x)), .int .i64 ((k + 1 : Nat) : Int)]) (bs' := [.cells (cfV c (.sl 1 0 0 6 n none)), .rows poK rs]) (by kernel_rfl) (by kernel_rfl) (by kernel_rfl) ih' ?_
    (show (seqAfter _ _ _).den = some _; kernel_rfl)
def rqF (vals : List V) (bs : List Blk) : Tree LRes := match vals, bs with
  | [.ptr 0 0 0 0, .str s, .int .i64 i], [.cells cs, .rows [.int .i64, .int .i64, .int .i64, .int .i64, .int .i64, .int .i64] rs] =>
    match Cfh.p cs with
    | some (c, [.sl 1 0 0 6 n none]) => .need (decide (n = rs.length) && decide (i = 0) && decide (n ≤ 1000) && decide (s.size ≤ 100000) && (pots rs).all potI) (.leaf ⟨.exit 0, [.str (s ++ bytesOf (prPs (pots rs)))], [none, none], []⟩)
    | _ => .fail
  | _, _ => .fail
def rqL : LSpec := ⟨68, [1, 3, 4], [3], rqF⟩
theorem rq_loop : LoopOK P (loopAt Tryd.f12 0) rqL := by
  refine loop_ok rqG_ok Go.Proofs.YtkgbphheppfnaaaDoor.hm (Λ := loopsOf []) (LoopsOK.nil (by kernel_rfl)) _ ?_
  intro vals bs r h
  simp only [rqL, rqF] at h
  split at h
  · split at h
    · rename_i s i cs rs _ c n hc
      rw [Cfh.p_eq hc, cfV_eq]
      rw [den_need, denLf] at h
      simp only [Bool.and_eq_true, decide_eq_true_eq] at h
      obtain ⟨⟨⟨⟨⟨h1, rfl⟩, h3⟩, h4⟩, h5⟩, h⟩ := h
      have hpl := pots_len rs
      have := rq_all (c := c) h1 h3 (pots rs) 0 s rfl (by omega) h5 (by omega)
      exact ⟨(pots rs).length + 1, this.trans h⟩
    · simp [den_fail] at h
  · simp [den_fail] at h
abbrev rtpG : List (Nat × Rx.Spec) := [(33, txS), (34, numS), (35, plS)]
theorem rtpG_ok : GammaOK P rtpG := .cons rtx_ok (.cons num_ok (.cons pl_ok (.nil P)))
def rprS : Rx.Spec := fun a b => match a with
  | [.agg cs] => match Cfh.p cs with
    | some (c, [.sl 0 0 0 6 n none]) => match b with
      | [.rows [.int .i64, .int .i64, .int .i64, .int .i64, .int .i64, .int .i64] rs] => .need (decide (n = rs.length) && decide (n ≤ 1000) && cfI c && (pots rs).all potI) (.leaf ⟨.str (bytesOf (prL c (pots rs))), [none], []⟩)
      | _ => .fail
    | _ => .fail
  | _ => .fail
theorem rpr_ok : SpecOK P 12 rprS := by
  refine specOK_fast rtpG_ok hm (Λ := loopsOf [(5, rqL)]) Tryd.func12 (by kernel_rfl) (LoopsOK.one (by kernel_rfl) rq_loop) ?_
  intro args bs r h
  unfold rprS at h
  split at h
  · split at h
    · split at h
      · rename_i cs _ c n hc _ rs
        rw [Cfh.p_eq hc]
        rw [den_need, denLf] at h
        simp only [Bool.and_eq_true, decide_eq_true_eq] at h
        obtain ⟨⟨⟨⟨h1, h2⟩, h3⟩, h4⟩, h⟩ := h
        cases h
        simp only [cfI, Bool.and_eq_true] at h3
        obtain ⟨⟨⟨⟨⟨⟨⟨i0, i1⟩, i2⟩, i3⟩, i4⟩, i5⟩, i6⟩, i7⟩ := h3
        have l1 := itoL_len i1
        have l2 := itoL_len i2
        have l3 := itoL_len i3
        have l4 := itoL_len i4
        have l5 := itoL_len i5
        have l6 := itoL_len i6
        have l7 := itoL_len i7
        rw [show (fFn P (specsOf rtpG) (loopsOf [(5, rqL)]) Tryd.f12 [.agg (c.vs ++ [.sl 0 0 0 6 n none])] [.rows poK rs]).denN = Tree.denN (Tree.ite (ckB c.id) (Tree.ite (inI c.2) (Tree.ite (decide (30 + (bytesOf (itoL c.2)).size ≤ 9223372036854775807)) (Tree.ite (decide ((({ data := #[OfNat.ofNat 99, OfNat.ofNat 108, OfNat.ofNat 111, OfNat.ofNat 99, OfNat.ofNat 107, OfNat.ofNat 32] } : ByteArray) ++ bytesOf (ckT c.id) ++ ({ data := #[OfNat.ofNat 10, OfNat.ofNat 100, OfNat.ofNat 111, OfNat.ofNat 109, OfNat.ofNat 97, OfNat.ofNat 105, OfNat.ofNat 110, OfNat.ofNat 32] } : ByteArray) ++ bytesOf (itoL c.2)).size + 10 ≤ 9223372036854775807)) (Tree.ite (inI c.3) (Tree.ite (decide ((({ data := #[OfNat.ofNat 99, OfNat.ofNat 108, OfNat.ofNat 111, OfNat.ofNat 99, OfNat.ofNat 107, OfNat.ofNat 32] } : ByteArray) ++ bytesOf (ckT c.id) ++ ({ data := #[OfNat.ofNat 10, OfNat.ofNat 100, OfNat.ofNat 111, OfNat.ofNat 109, OfNat.ofNat 97, OfNat.ofNat 105, OfNat.ofNat 110, OfNat.ofNat 32] } : ByteArray) ++ bytesOf (itoL c.2) ++ ({ data := #[OfNat.ofNat 10, OfNat.ofNat 112, OfNat.ofNat 114, OfNat.ofNat 105, OfNat.ofNat 111, OfNat.ofNat 114, OfNat.ofNat 105, OfNat.ofNat 116, OfNat.ofNat 121, OfNat.ofNat 32] } : ByteArray)).size + (bytesOf (itoL c.3)).size ≤ 9223372036854775807)) (Tree.ite (decide ((({ data := #[OfNat.ofNat 99, OfNat.ofNat 108, OfNat.ofNat 111, OfNat.ofNat 99, OfNat.ofNat 107, OfNat.ofNat 32] } : ByteArray) ++ bytesOf (ckT c.id) ++ ({ data := #[OfNat.ofNat 10, OfNat.ofNat 100, OfNat.ofNat 111, OfNat.ofNat 109, OfNat.ofNat 97, OfNat.ofNat 105, OfNat.ofNat 110, OfNat.ofNat 32] } : ByteArray) ++ bytesOf (itoL c.2) ++ ({ data := #[OfNat.ofNat 10, OfNat.ofNat 112, OfNat.ofNat 114, OfNat.ofNat 105, OfNat.ofNat 111, OfNat.ofNat 114, OfNat.ofNat 105, OfNat.ofNat 116, OfNat.ofNat 121, OfNat.ofNat 32] } : ByteArray) ++ bytesOf (itoL c.3)).size + 1 ≤ 9223372036854775807)) (Tree.ite (inI c.4) (Tree.ite (decide ((({ data := #[OfNat.ofNat 99, OfNat.ofNat 108, OfNat.ofNat 111, OfNat.ofNat 99, OfNat.ofNat 107, OfNat.ofNat 32] } : ByteArray) ++ bytesOf (ckT c.id) ++ ({ data := #[OfNat.ofNat 10, OfNat.ofNat 100, OfNat.ofNat 111, OfNat.ofNat 109, OfNat.ofNat 97, OfNat.ofNat 105, OfNat.ofNat 110, OfNat.ofNat 32] } : ByteArray) ++ bytesOf (itoL c.2) ++ ({ data := #[OfNat.ofNat 10, OfNat.ofNat 112, OfNat.ofNat 114, OfNat.ofNat 105, OfNat.ofNat 111, OfNat.ofNat 114, OfNat.ofNat 105, OfNat.ofNat 116, OfNat.ofNat 121, OfNat.ofNat 32] } : ByteArray) ++ bytesOf (itoL c.3) ++ ({ data := #[OfNat.ofNat 32] } : ByteArray)).size + (bytesOf (itoL c.4)).size ≤ 9223372036854775807)) (Tree.ite (decide ((({ data := #[OfNat.ofNat 99, OfNat.ofNat 108, OfNat.ofNat 111, OfNat.ofNat 99, OfNat.ofNat 107, OfNat.ofNat 32] } : ByteArray) ++ bytesOf (ckT c.id) ++ ({ data := #[OfNat.ofNat 10, OfNat.ofNat 100, OfNat.ofNat 111, OfNat.ofNat 109, OfNat.ofNat 97, OfNat.ofNat 105, OfNat.ofNat 110, OfNat.ofNat 32] } : ByteArray) ++ bytesOf (itoL c.2) ++ ({ data := #[OfNat.ofNat 10, OfNat.ofNat 112, OfNat.ofNat 114, OfNat.ofNat 105, OfNat.ofNat 111, OfNat.ofNat 114, OfNat.ofNat 105, OfNat.ofNat 116, OfNat.ofNat 121, OfNat.ofNat 32] } : ByteArray) ++ bytesOf (itoL c.3) ++ ({ data := #[OfNat.ofNat 32] } : ByteArray) ++ bytesOf (itoL c.4)).size + 7 ≤ 9223372036854775807)) (Tree.ite (inI c.q.1) (Tree.ite (decide ((({ data := #[OfNat.ofNat 99, OfNat.ofNat 108, OfNat.ofNat 111, OfNat.ofNat 99, OfNat.ofNat 107, OfNat.ofNat 32] } : ByteArray) ++ bytesOf (ckT c.id) ++ ({ data := #[OfNat.ofNat 10, OfNat.ofNat 100, OfNat.ofNat 111, OfNat.ofNat 109, OfNat.ofNat 97, OfNat.ofNat 105, OfNat.ofNat 110, OfNat.ofNat 32] } : ByteArray) ++ bytesOf (itoL c.2) ++ ({ data := #[OfNat.ofNat 10, OfNat.ofNat 112, OfNat.ofNat 114, OfNat.ofNat 105, OfNat.ofNat 111, OfNat.ofNat 114, OfNat.ofNat 105, OfNat.ofNat 116, OfNat.ofNat 121, OfNat.ofNat 32] } : ByteArray) ++ bytesOf (itoL c.3) ++ ({ data := #[OfNat.ofNat 32] } : ByteArray) ++ bytesOf (itoL c.4) ++ ({ data := #[OfNat.ofNat 10, OfNat.ofNat 99, OfNat.ofNat 108, OfNat.ofNat 97, OfNat.ofNat 115, OfNat.ofNat 115, OfNat.ofNat 32] } : ByteArray)).size + (bytesOf (itoL c.q.1)).size ≤ 9223372036854775807)) (Tree.ite (decide ((({ data := #[OfNat.ofNat 99, OfNat.ofNat 108, OfNat.ofNat 111, OfNat.ofNat 99, OfNat.ofNat 107, OfNat.ofNat 32] } : ByteArray) ++ bytesOf (ckT c.id) ++ ({ data := #[OfNat.ofNat 10, OfNat.ofNat 100, OfNat.ofNat 111, OfNat.ofNat 109, OfNat.ofNat 97, OfNat.ofNat 105, OfNat.ofNat 110, OfNat.ofNat 32] } : ByteArray) ++ bytesOf (itoL c.2) ++ ({ data := #[OfNat.ofNat 10, OfNat.ofNat 112, OfNat.ofNat 114, OfNat.ofNat 105, OfNat.ofNat 111, OfNat.ofNat 114, OfNat.ofNat 105, OfNat.ofNat 116, OfNat.ofNat 121, OfNat.ofNat 32] } : ByteArray) ++ bytesOf (itoL c.3) ++ ({ data := #[OfNat.ofNat 32] } : ByteArray) ++ bytesOf (itoL c.4) ++ ({ data := #[OfNat.ofNat 10, OfNat.ofNat 99, OfNat.ofNat 108, OfNat.ofNat 97, OfNat.ofNat 115, OfNat.ofNat 115, OfNat.ofNat 32] } : ByteArray) ++ bytesOf (itoL c.q.1)).size + 10 ≤ 9223372036854775807)) (Tree.ite (inI c.q.2) (Tree.ite (decide ((({ data := #[OfNat.ofNat 99, OfNat.ofNat 108, OfNat.ofNat 111, OfNat.ofNat 99, OfNat.ofNat 107, OfNat.ofNat 32] } : ByteArray) ++ bytesOf (ckT c.id) ++ ({ data := #[OfNat.ofNat 10, OfNat.ofNat 100, OfNat.ofNat 111, OfNat.ofNat 109, OfNat.ofNat 97, OfNat.ofNat 105, OfNat.ofNat 110, OfNat.ofNat 32] } : ByteArray) ++ bytesOf (itoL c.2) ++ ({ data := #[OfNat.ofNat 10, OfNat.ofNat 112, OfNat.ofNat 114, OfNat.ofNat 105, OfNat.ofNat 111, OfNat.ofNat 114, OfNat.ofNat 105, OfNat.ofNat 116, OfNat.ofNat 121, OfNat.ofNat 32] } : ByteArray) ++ bytesOf (itoL c.3) ++ ({ data := #[OfNat.ofNat 32] } : ByteArray) ++ bytesOf (itoL c.4) ++ ({ data := #[OfNat.ofNat 10, OfNat.ofNat 99, OfNat.ofNat 108, OfNat.ofNat 97, OfNat.ofNat 115, OfNat.ofNat 115, OfNat.ofNat 32] } : ByteArray) ++ bytesOf (itoL c.q.1) ++ ({ data := #[OfNat.ofNat 10, OfNat.ofNat 97, OfNat.ofNat 99, OfNat.ofNat 99, OfNat.ofNat 117, OfNat.ofNat 114, OfNat.ofNat 97, OfNat.ofNat 99, OfNat.ofNat 121, OfNat.ofNat 32] } : ByteArray)).size + (bytesOf (itoL c.q.2)).size ≤ 9223372036854775807)) (Tree.ite (decide ((({ data := #[OfNat.ofNat 99, OfNat.ofNat 108, OfNat.ofNat 111, OfNat.ofNat 99, OfNat.ofNat 107, OfNat.ofNat 32] } : ByteArray) ++ bytesOf (ckT c.id) ++ ({ data := #[OfNat.ofNat 10, OfNat.ofNat 100, OfNat.ofNat 111, OfNat.ofNat 109, OfNat.ofNat 97, OfNat.ofNat 105, OfNat.ofNat 110, OfNat.ofNat 32] } : ByteArray) ++ bytesOf (itoL c.2) ++ ({ data := #[OfNat.ofNat 10, OfNat.ofNat 112, OfNat.ofNat 114, OfNat.ofNat 105, OfNat.ofNat 111, OfNat.ofNat 114, OfNat.ofNat 105, OfNat.ofNat 116, OfNat.ofNat 121, OfNat.ofNat 32] } : ByteArray) ++ bytesOf (itoL c.3) ++ ({ data := #[OfNat.ofNat 32] } : ByteArray) ++ bytesOf (itoL c.4) ++ ({ data := #[OfNat.ofNat 10, OfNat.ofNat 99, OfNat.ofNat 108, OfNat.ofNat 97, OfNat.ofNat 115, OfNat.ofNat 115, OfNat.ofNat 32] } : ByteArray) ++ bytesOf (itoL c.q.1) ++ ({ data := #[OfNat.ofNat 10, OfNat.ofNat 97, OfNat.ofNat 99, OfNat.ofNat 99, OfNat.ofNat 117, OfNat.ofNat 114, OfNat.ofNat 97, OfNat.ofNat 99, OfNat.ofNat 121, OfNat.ofNat 32] } : ByteArray) ++ bytesOf (itoL c.q.2)).size + 10 ≤ 9223372036854775807)) (Tree.ite (inI c.q.3) (Tree.ite (decide ((({ data := #[OfNat.ofNat 99, OfNat.ofNat 108, OfNat.ofNat 111, OfNat.ofNat 99, OfNat.ofNat 107, OfNat.ofNat 32] } : ByteArray) ++ bytesOf (ckT c.id) ++ ({ data := #[OfNat.ofNat 10, OfNat.ofNat 100, OfNat.ofNat 111, OfNat.ofNat 109, OfNat.ofNat 97, OfNat.ofNat 105, OfNat.ofNat 110, OfNat.ofNat 32] } : ByteArray) ++ bytesOf (itoL c.2) ++ ({ data := #[OfNat.ofNat 10, OfNat.ofNat 112, OfNat.ofNat 114, OfNat.ofNat 105, OfNat.ofNat 111, OfNat.ofNat 114, OfNat.ofNat 105, OfNat.ofNat 116, OfNat.ofNat 121, OfNat.ofNat 32] } : ByteArray) ++ bytesOf (itoL c.3) ++ ({ data := #[OfNat.ofNat 32] } : ByteArray) ++ bytesOf (itoL c.4) ++ ({ data := #[OfNat.ofNat 10, OfNat.ofNat 99, OfNat.ofNat 108, OfNat.ofNat 97, OfNat.ofNat 115, OfNat.ofNat 115, OfNat.ofNat 32] } : ByteArray) ++ bytesOf (itoL c.q.1) ++ ({ data := #[OfNat.ofNat 10, OfNat.ofNat 97, OfNat.ofNat 99, OfNat.ofNat 99, OfNat.ofNat 117, OfNat.ofNat 114, OfNat.ofNat 97, OfNat.ofNat 99, OfNat.ofNat 121, OfNat.ofNat 32] } : ByteArray) ++ bytesOf (itoL c.q.2) ++ ({ data := #[OfNat.ofNat 10, OfNat.ofNat 118, OfNat.ofNat 97, OfNat.ofNat 114, OfNat.ofNat 105, OfNat.ofNat 97, OfNat.ofNat 110, OfNat.ofNat 99, OfNat.ofNat 101, OfNat.ofNat 32] } : ByteArray)).size + (bytesOf (itoL c.q.3)).size ≤ 9223372036854775807)) (Tree.ite (decide ((({ data := #[OfNat.ofNat 99, OfNat.ofNat 108, OfNat.ofNat 111, OfNat.ofNat 99, OfNat.ofNat 107, OfNat.ofNat 32] } : ByteArray) ++ bytesOf (ckT c.id) ++ ({ data := #[OfNat.ofNat 10, OfNat.ofNat 100, OfNat.ofNat 111, OfNat.ofNat 109, OfNat.ofNat 97, OfNat.ofNat 105, OfNat.ofNat 110, OfNat.ofNat 32] } : ByteArray) ++ bytesOf (itoL c.2) ++ ({ data := #[OfNat.ofNat 10, OfNat.ofNat 112, OfNat.ofNat 114, OfNat.ofNat 105, OfNat.ofNat 111, OfNat.ofNat 114, OfNat.ofNat 105, OfNat.ofNat 116, OfNat.ofNat 121, OfNat.ofNat 32] } : ByteArray) ++ bytesOf (itoL c.3) ++ ({ data := #[OfNat.ofNat 32] } : ByteArray) ++ bytesOf (itoL c.4) ++ ({ data := #[OfNat.ofNat 10, OfNat.ofNat 99, OfNat.ofNat 108, OfNat.ofNat 97, OfNat.ofNat 115, OfNat.ofNat 115, OfNat.ofNat 32] } : ByteArray) ++ bytesOf (itoL c.q.1) ++ ({ data := #[OfNat.ofNat 10, OfNat.ofNat 97, OfNat.ofNat 99, OfNat.ofNat 99, OfNat.ofNat 117, OfNat.ofNat 114, OfNat.ofNat 97, OfNat.ofNat 99, OfNat.ofNat 121, OfNat.ofNat 32] } : ByteArray) ++ bytesOf (itoL c.q.2) ++ ({ data := #[OfNat.ofNat 10, OfNat.ofNat 118, OfNat.ofNat 97, OfNat.ofNat 114, OfNat.ofNat 105, OfNat.ofNat 97, OfNat.ofNat 110, OfNat.ofNat 99, OfNat.ofNat 101, OfNat.ofNat 32] } : ByteArray) ++ bytesOf (itoL c.q.3)).size + 5 ≤ 9223372036854775807)) (Tree.ite (inI c.6) (Tree.ite (decide ((({ data := #[OfNat.ofNat 99, OfNat.ofNat 108, OfNat.ofNat 111, OfNat.ofNat 99, OfNat.ofNat 107, OfNat.ofNat 32] } : ByteArray) ++ bytesOf (ckT c.id) ++ ({ data := #[OfNat.ofNat 10, OfNat.ofNat 100, OfNat.ofNat 111, OfNat.ofNat 109, OfNat.ofNat 97, OfNat.ofNat 105, OfNat.ofNat 110, OfNat.ofNat 32] } : ByteArray) ++ bytesOf (itoL c.2) ++ ({ data := #[OfNat.ofNat 10, OfNat.ofNat 112, OfNat.ofNat 114, OfNat.ofNat 105, OfNat.ofNat 111, OfNat.ofNat 114, OfNat.ofNat 105, OfNat.ofNat 116, OfNat.ofNat 121, OfNat.ofNat 32] } : ByteArray) ++ bytesOf (itoL c.3) ++ ({ data := #[OfNat.ofNat 32] } : ByteArray) ++ bytesOf (itoL c.4) ++ ({ data := #[OfNat.ofNat 10, OfNat.ofNat 99, OfNat.ofNat 108, OfNat.ofNat 97, OfNat.ofNat 115, OfNat.ofNat 115, OfNat.ofNat 32] } : ByteArray) ++ bytesOf (itoL c.q.1) ++ ({ data := #[OfNat.ofNat 10, OfNat.ofNat 97, OfNat.ofNat 99, OfNat.ofNat 99, OfNat.ofNat 117, OfNat.ofNat 114, OfNat.ofNat 97, OfNat.ofNat 99, OfNat.ofNat 121, OfNat.ofNat 32] } : ByteArray) ++ bytesOf (itoL c.q.2) ++ ({ data := #[OfNat.ofNat 10, OfNat.ofNat 118, OfNat.ofNat 97, OfNat.ofNat 114, OfNat.ofNat 105, OfNat.ofNat 97, OfNat.ofNat 110, OfNat.ofNat 99, OfNat.ofNat 101, OfNat.ofNat 32] } : ByteArray) ++ bytesOf (itoL c.q.3) ++ ({ data := #[OfNat.ofNat 10, OfNat.ofNat 112, OfNat.ofNat 112, OfNat.ofNat 98, OfNat.ofNat 32] } : ByteArray)).size + (bytesOf (itoL c.6)).size ≤ 9223372036854775807)) (Tree.ite (decide ((({ data := #[OfNat.ofNat 99, OfNat.ofNat 108, OfNat.ofNat 111, OfNat.ofNat 99, OfNat.ofNat 107, OfNat.ofNat 32] } : ByteArray) ++ bytesOf (ckT c.id) ++ ({ data := #[OfNat.ofNat 10, OfNat.ofNat 100, OfNat.ofNat 111, OfNat.ofNat 109, OfNat.ofNat 97, OfNat.ofNat 105, OfNat.ofNat 110, OfNat.ofNat 32] } : ByteArray) ++ bytesOf (itoL c.2) ++ ({ data := #[OfNat.ofNat 10, OfNat.ofNat 112, OfNat.ofNat 114, OfNat.ofNat 105, OfNat.ofNat 111, OfNat.ofNat 114, OfNat.ofNat 105, OfNat.ofNat 116, OfNat.ofNat 121, OfNat.ofNat 32] } : ByteArray) ++ bytesOf (itoL c.3) ++ ({ data := #[OfNat.ofNat 32] } : ByteArray) ++ bytesOf (itoL c.4) ++ ({ data := #[OfNat.ofNat 10, OfNat.ofNat 99, OfNat.ofNat 108, OfNat.ofNat 97, OfNat.ofNat 115, OfNat.ofNat 115, OfNat.ofNat 32] } : ByteArray) ++ bytesOf (itoL c.q.1) ++ ({ data := #[OfNat.ofNat 10, OfNat.ofNat 97, OfNat.ofNat 99, OfNat.ofNat 99, OfNat.ofNat 117, OfNat.ofNat 114, OfNat.ofNat 97, OfNat.ofNat 99, OfNat.ofNat 121, OfNat.ofNat 32] } : ByteArray) ++ bytesOf (itoL c.q.2) ++ ({ data := #[OfNat.ofNat 10, OfNat.ofNat 118, OfNat.ofNat 97, OfNat.ofNat 114, OfNat.ofNat 105, OfNat.ofNat 97, OfNat.ofNat 110, OfNat.ofNat 99, OfNat.ofNat 101, OfNat.ofNat 32] } : ByteArray) ++ bytesOf (itoL c.q.3) ++ ({ data := #[OfNat.ofNat 10, OfNat.ofNat 112, OfNat.ofNat 112, OfNat.ofNat 98, OfNat.ofNat 32] } : ByteArray) ++ bytesOf (itoL c.6)).size + 1 ≤ 9223372036854775807)) (Tree.ite c.7 (Tree.ite (decide ((({ data := #[OfNat.ofNat 99, OfNat.ofNat 108, OfNat.ofNat 111, OfNat.ofNat 99, OfNat.ofNat 107, OfNat.ofNat 32] } : ByteArray) ++ bytesOf (ckT c.id) ++ ({ data := #[OfNat.ofNat 10, OfNat.ofNat 100, OfNat.ofNat 111, OfNat.ofNat 109, OfNat.ofNat 97, OfNat.ofNat 105, OfNat.ofNat 110, OfNat.ofNat 32] } : ByteArray) ++ bytesOf (itoL c.2) ++ ({ data := #[OfNat.ofNat 10, OfNat.ofNat 112, OfNat.ofNat 114, OfNat.ofNat 105, OfNat.ofNat 111, OfNat.ofNat 114, OfNat.ofNat 105, OfNat.ofNat 116, OfNat.ofNat 121, OfNat.ofNat 32] } : ByteArray) ++ bytesOf (itoL c.3) ++ ({ data := #[OfNat.ofNat 32] } : ByteArray) ++ bytesOf (itoL c.4) ++ ({ data := #[OfNat.ofNat 10, OfNat.ofNat 99, OfNat.ofNat 108, OfNat.ofNat 97, OfNat.ofNat 115, OfNat.ofNat 115, OfNat.ofNat 32] } : ByteArray) ++ bytesOf (itoL c.q.1) ++ ({ data := #[OfNat.ofNat 10, OfNat.ofNat 97, OfNat.ofNat 99, OfNat.ofNat 99, OfNat.ofNat 117, OfNat.ofNat 114, OfNat.ofNat 97, OfNat.ofNat 99, OfNat.ofNat 121, OfNat.ofNat 32] } : ByteArray) ++ bytesOf (itoL c.q.2) ++ ({ data := #[OfNat.ofNat 10, OfNat.ofNat 118, OfNat.ofNat 97, OfNat.ofNat 114, OfNat.ofNat 105, OfNat.ofNat 97, OfNat.ofNat 110, OfNat.ofNat 99, OfNat.ofNat 101, OfNat.ofNat 32] } : ByteArray) ++ bytesOf (itoL c.q.3) ++ ({ data := #[OfNat.ofNat 10, OfNat.ofNat 112, OfNat.ofNat 112, OfNat.ofNat 98, OfNat.ofNat 32] } : ByteArray) ++ bytesOf (itoL c.6) ++ ({ data := #[OfNat.ofNat 10] } : ByteArray)).size + 6 ≤ 9223372036854775807)) (Tree.ite (decide (n = rs.length) && true && decide (n ≤ 1000) && decide ((({ data := #[OfNat.ofNat 99, OfNat.ofNat 108, OfNat.ofNat 111, OfNat.ofNat 99, OfNat.ofNat 107, OfNat.ofNat 32] } : ByteArray) ++ bytesOf (ckT c.id) ++ ({ data := #[OfNat.ofNat 10, OfNat.ofNat 100, OfNat.ofNat 111, OfNat.ofNat 109, OfNat.ofNat 97, OfNat.ofNat 105, OfNat.ofNat 110, OfNat.ofNat 32] } : ByteArray) ++ bytesOf (itoL c.2) ++ ({ data := #[OfNat.ofNat 10, OfNat.ofNat 112, OfNat.ofNat 114, OfNat.ofNat 105, OfNat.ofNat 111, OfNat.ofNat 114, OfNat.ofNat 105, OfNat.ofNat 116, OfNat.ofNat 121, OfNat.ofNat 32] } : ByteArray) ++ bytesOf (itoL c.3) ++ ({ data := #[OfNat.ofNat 32] } : ByteArray) ++ bytesOf (itoL c.4) ++ ({ data := #[OfNat.ofNat 10, OfNat.ofNat 99, OfNat.ofNat 108, OfNat.ofNat 97, OfNat.ofNat 115, OfNat.ofNat 115, OfNat.ofNat 32] } : ByteArray) ++ bytesOf (itoL c.q.1) ++ ({ data := #[OfNat.ofNat 10, OfNat.ofNat 97, OfNat.ofNat 99, OfNat.ofNat 99, OfNat.ofNat 117, OfNat.ofNat 114, OfNat.ofNat 97, OfNat.ofNat 99, OfNat.ofNat 121, OfNat.ofNat 32] } : ByteArray) ++ bytesOf (itoL c.q.2) ++ ({ data := #[OfNat.ofNat 10, OfNat.ofNat 118, OfNat.ofNat 97, OfNat.ofNat 114, OfNat.ofNat 105, OfNat.ofNat 97, OfNat.ofNat 110, OfNat.ofNat 99, OfNat.ofNat 101, OfNat.ofNat 32] } : ByteArray) ++ bytesOf (itoL c.q.3) ++ ({ data := #[OfNat.ofNat 10, OfNat.ofNat 112, OfNat.ofNat 112, OfNat.ofNat 98, OfNat.ofNat 32] } : ByteArray) ++ bytesOf (itoL c.6) ++ ({ data := #[OfNat.ofNat 10] } : ByteArray) ++ ({ data := #[OfNat.ofNat 115, OfNat.ofNat 108, OfNat.ofNat 97, OfNat.ofNat 118, OfNat.ofNat 101, OfNat.ofNat 10] } : ByteArray)).size ≤ 100000) && (pots rs).all potI) (Tree.leaf { v := V.str (({ data := #[OfNat.ofNat 99, OfNat.ofNat 108, OfNat.ofNat 111, OfNat.ofNat 99, OfNat.ofNat 107, OfNat.ofNat 32] } : ByteArray) ++ bytesOf (ckT c.id) ++ ({ data := #[OfNat.ofNat 10, OfNat.ofNat 100, OfNat.ofNat 111, OfNat.ofNat 109, OfNat.ofNat 97, OfNat.ofNat 105, OfNat.ofNat 110, OfNat.ofNat 32] } : ByteArray) ++ bytesOf (itoL c.2) ++ ({ data := #[OfNat.ofNat 10, OfNat.ofNat 112, OfNat.ofNat 114, OfNat.ofNat 105, OfNat.ofNat 111, OfNat.ofNat 114, OfNat.ofNat 105, OfNat.ofNat 116, OfNat.ofNat 121, OfNat.ofNat 32] } : ByteArray) ++ bytesOf (itoL c.3) ++ ({ data := #[OfNat.ofNat 32] } : ByteArray) ++ bytesOf (itoL c.4) ++ ({ data := #[OfNat.ofNat 10, OfNat.ofNat 99, OfNat.ofNat 108, OfNat.ofNat 97, OfNat.ofNat 115, OfNat.ofNat 115, OfNat.ofNat 32] } : ByteArray) ++ bytesOf (itoL c.q.1) ++ ({ data := #[OfNat.ofNat 10, OfNat.ofNat 97, OfNat.ofNat 99, OfNat.ofNat 99, OfNat.ofNat 117, OfNat.ofNat 114, OfNat.ofNat 97, OfNat.ofNat 99, OfNat.ofNat 121, OfNat.ofNat 32] } : ByteArray) ++ bytesOf (itoL c.q.2) ++ ({ data := #[OfNat.ofNat 10, OfNat.ofNat 118, OfNat.ofNat 97, OfNat.ofNat 114, OfNat.ofNat 105, OfNat.ofNat 97, OfNat.ofNat 110, OfNat.ofNat 99, OfNat.ofNat 101, OfNat.ofNat 32] } : ByteArray) ++ bytesOf (itoL c.q.3) ++ ({ data := #[OfNat.ofNat 10, OfNat.ofNat 112, OfNat.ofNat 112, OfNat.ofNat 98, OfNat.ofNat 32] } : ByteArray) ++ bytesOf (itoL c.6) ++ ({ data := #[OfNat.ofNat 10] } : ByteArray) ++ ({ data := #[OfNat.ofNat 115, OfNat.ofNat 108, OfNat.ofNat 97, OfNat.ofNat 118, OfNat.ofNat 101, OfNat.ofNat 10] } : ByteArray) ++ bytesOf (prPs (pots rs))), upd := [none], new := [] }) Tree.fail) Tree.fail) (Tree.ite (decide (n = rs.length) && true && decide (n ≤ 1000) && decide ((({ data := #[OfNat.ofNat 99, OfNat.ofNat 108, OfNat.ofNat 111, OfNat.ofNat 99, OfNat.ofNat 107, OfNat.ofNat 32] } : ByteArray) ++ bytesOf (ckT c.id) ++ ({ data := #[OfNat.ofNat 10, OfNat.ofNat 100, OfNat.ofNat 111, OfNat.ofNat 109, OfNat.ofNat 97, OfNat.ofNat 105, OfNat.ofNat 110, OfNat.ofNat 32] } : ByteArray) ++ bytesOf (itoL c.2) ++ ({ data := #[OfNat.ofNat 10, OfNat.ofNat 112, OfNat.ofNat 114, OfNat.ofNat 105, OfNat.ofNat 111, OfNat.ofNat 114, OfNat.ofNat 105, OfNat.ofNat 116, OfNat.ofNat 121, OfNat.ofNat 32] } : ByteArray) ++ bytesOf (itoL c.3) ++ ({ data := #[OfNat.ofNat 32] } : ByteArray) ++ bytesOf (itoL c.4) ++ ({ data := #[OfNat.ofNat 10, OfNat.ofNat 99, OfNat.ofNat 108, OfNat.ofNat 97, OfNat.ofNat 115, OfNat.ofNat 115, OfNat.ofNat 32] } : ByteArray) ++ bytesOf (itoL c.q.1) ++ ({ data := #[OfNat.ofNat 10, OfNat.ofNat 97, OfNat.ofNat 99, OfNat.ofNat 99, OfNat.ofNat 117, OfNat.ofNat 114, OfNat.ofNat 97, OfNat.ofNat 99, OfNat.ofNat 121, OfNat.ofNat 32] } : ByteArray) ++ bytesOf (itoL c.q.2) ++ ({ data := #[OfNat.ofNat 10, OfNat.ofNat 118, OfNat.ofNat 97, OfNat.ofNat 114, OfNat.ofNat 105, OfNat.ofNat 97, OfNat.ofNat 110, OfNat.ofNat 99, OfNat.ofNat 101, OfNat.ofNat 32] } : ByteArray) ++ bytesOf (itoL c.q.3) ++ ({ data := #[OfNat.ofNat 10, OfNat.ofNat 112, OfNat.ofNat 112, OfNat.ofNat 98, OfNat.ofNat 32] } : ByteArray) ++ bytesOf (itoL c.6) ++ ({ data := #[OfNat.ofNat 10] } : ByteArray)).size ≤ 100000) && (pots rs).all potI) (Tree.leaf { v := V.str (({ data := #[OfNat.ofNat 99, OfNat.ofNat 108, OfNat.ofNat 111, OfNat.ofNat 99, OfNat.ofNat 107, OfNat.ofNat 32] } : ByteArray) ++ bytesOf (ckT c.id) ++ ({ data := #[OfNat.ofNat 10, OfNat.ofNat 100, OfNat.ofNat 111, OfNat.ofNat 109, OfNat.ofNat 97, OfNat.ofNat 105, OfNat.ofNat 110, OfNat.ofNat 32] } : ByteArray) ++ bytesOf (itoL c.2) ++ ({ data := #[OfNat.ofNat 10, OfNat.ofNat 112, OfNat.ofNat 114, OfNat.ofNat 105, OfNat.ofNat 111, OfNat.ofNat 114, OfNat.ofNat 105, OfNat.ofNat 116, OfNat.ofNat 121, OfNat.ofNat 32] } : ByteArray) ++ bytesOf (itoL c.3) ++ ({ data := #[OfNat.ofNat 32] } : ByteArray) ++ bytesOf (itoL c.4) ++ ({ data := #[OfNat.ofNat 10, OfNat.ofNat 99, OfNat.ofNat 108, OfNat.ofNat 97, OfNat.ofNat 115, OfNat.ofNat 115, OfNat.ofNat 32] } : ByteArray) ++ bytesOf (itoL c.q.1) ++ ({ data := #[OfNat.ofNat 10, OfNat.ofNat 97, OfNat.ofNat 99, OfNat.ofNat 99, OfNat.ofNat 117, OfNat.ofNat 114, OfNat.ofNat 97, OfNat.ofNat 99, OfNat.ofNat 121, OfNat.ofNat 32] } : ByteArray) ++ bytesOf (itoL c.q.2) ++ ({ data := #[OfNat.ofNat 10, OfNat.ofNat 118, OfNat.ofNat 97, OfNat.ofNat 114, OfNat.ofNat 105, OfNat.ofNat 97, OfNat.ofNat 110, OfNat.ofNat 99, OfNat.ofNat 101, OfNat.ofNat 32] } : ByteArray) ++ bytesOf (itoL c.q.3) ++ ({ data := #[OfNat.ofNat 10, OfNat.ofNat 112, OfNat.ofNat 112, OfNat.ofNat 98, OfNat.ofNat 32] } : ByteArray) ++ bytesOf (itoL c.6) ++ ({ data := #[OfNat.ofNat 10] } : ByteArray) ++ bytesOf (prPs (pots rs))), upd := [none], new := [] }) Tree.fail)) Tree.fail) Tree.fail) Tree.fail) Tree.fail) Tree.fail) Tree.fail) Tree.fail) Tree.fail) Tree.fail) Tree.fail) Tree.fail) Tree.fail) Tree.fail) Tree.fail) Tree.fail) Tree.fail) Tree.fail) Tree.fail) Tree.fail) Tree.fail) Tree.fail) Tree.fail) from by kernel_rfl]
        simp only [rPort_k, r32_k, rClock_k, rDomain_k, rPriority_k, rClass_k, rAccuracy_k, rVariance_k, rPpb_k, rSlave_k, c10_k, bytesOf_append]
        simp only [denN_ite, denN_leaf, denN_fail, bytesOf_size, List.length_append, ckT_len, List.length_cons, List.length_nil, i0, i1, i2, i3, i4, i5, i6, i7, h4, decide_eq_true h1, decide_eq_true h2, if_true]
        cases hs : c.sl with
        | true =>
          repeat rw [if_pos (by rw [decide_eq_true_eq]; omega)]
          rw [if_pos (by rfl)]
          repeat rw [if_pos (by rw [decide_eq_true_eq]; omega)]
          rw [if_pos (by simp only [Bool.and_eq_true, decide_eq_true_eq, true_and, and_true]; omega)]
          simp only [prL, prH, prS, hs, lineW, cClock, cDomain, cPriority, cClass, cAccuracy, cVariance, cPpb, cSlave, List.append_assoc, List.cons_append, List.nil_append, List.append_nil]
        | false =>
          repeat rw [if_pos (by rw [decide_eq_true_eq]; omega)]
          rw [if_neg (by decide)]
          repeat rw [if_pos (by rw [decide_eq_true_eq]; omega)]
          rw [if_pos (by simp only [Bool.and_eq_true, decide_eq_true_eq, true_and, and_true]; omega)]
          simp only [prL, prH, prS, hs, lineW, cClock, cDomain, cPriority, cClass, cAccuracy, cVariance, cPpb, cSlave, List.append_assoc, List.cons_append, List.nil_append, List.append_nil]
      · simp [den_fail] at h
    · simp [den_fail] at h
  · simp [den_fail] at h
end Go.Proofs.YtkgbphheppfnaaaDoor

set_option maxRecDepth 100000
set_option linter.unusedSimpArgs false
set_option linter.unusedVariables false
namespace Go.Proofs.YtkgbphheppfnaaaDoor
open Go.Rx
def zcV : List V := [V.int .u8 0, V.int .u8 0, V.int .u8 0, V.int .u8 0, V.int .u8 0, V.int .u8 0, V.int .u8 0, V.int .u8 0, V.int .i64 0, V.int .i64 0, V.int .i64 0, V.int .i64 0, V.int .i64 0, V.int .i64 0, V.int .i64 0, V.fls, V.nils]
def poRow (x : Pot) : List V := [.int .i64 x.ev, .int .i64 x.of_, .int .i64 x.ask, .int .i64 x.pa.mn, .int .i64 x.pa.mx, .int .i64 x.pa.gr]
def poRows (l : List Pot) : List (List V) := l.map poRow
theorem pots_rows (l : List Pot) : pots (poRows l) = l := by
  simp only [pots, poRows, List.map_map]
  conv => rhs; rw [← List.map_id l]
  exact List.map_congr_left fun x _ => rfl
theorem poRows_len (l : List Pot) : (poRows l).length = l.length := by simp [poRows]
theorem owA_round (c : Cfh) (n m : Nat) (N k : Int) (rs qs : List (List V)) : (evRound P (specsOf []) (loopsOf []) 44 [2, 3, 22, 23, 24] [] (loopAt Tryd.f9 0) [.ptr 0 0 0 0, .ptr 1 0 0 0, .sl 2 0 0 6 n none, .int .i64 N, .int .i64 k] [.cells zcV, .cells (cfV c (.sl 3 0 0 6 m none)), .rows poK rs, .rows poK qs]).den = Tree.den (Tree.ite (decide (k < N)) (Tree.ite (decide (0 ≤ k) && decide (k < (↑n : Int))) (Tree.ite (decide (0 + k.toNat < rs.length)) (Tree.ite (decide (0 + m ≤ qs.length) && true) (Tree.ite (decide ((List.take m (List.drop 0 qs) ++ [[V.int IntKind.i64 (V.toInt ((rs.getD (0 + k.toNat) []).getD 0 V.any)), V.int IntKind.i64 (V.toInt ((rs.getD (0 + k.toNat) []).getD 1 V.any)), V.int IntKind.i64 (V.toInt ((rs.getD (0 + k.toNat) []).getD 2 V.any)), V.int IntKind.i64 (V.toInt ((rs.getD (0 + k.toNat) []).getD 3 V.any)), V.int IntKind.i64 (V.toInt ((rs.getD (0 + k.toNat) []).getD 4 V.any)), V.int IntKind.i64 (V.toInt ((rs.getD (0 + k.toNat) []).getD 5 V.any))]]).length * 48 ≤ 140737488355328)) (Tree.leaf { e := Ex.nrm, vs := [V.ptr 0 0 0 0, V.ptr 1 0 0 0, V.sl 2 0 0 6 n none, V.int IntKind.i64 N, V.int IntKind.i64 (IntKind.i64.wrap (k + 1))], upd := [none, some (some (Body.cells [V.int IntKind.u8 c.id.1, V.int IntKind.u8 c.id.2, V.int IntKind.u8 c.id.3, V.int IntKind.u8 c.id.4, V.int IntKind.u8 c.id.5, V.int IntKind.u8 c.id.6, V.int IntKind.u8 c.id.7, V.int IntKind.u8 c.id.8, V.int IntKind.i64 c.2, V.int IntKind.i64 c.3, V.int IntKind.i64 c.4, V.int IntKind.i64 c.q.1, V.int IntKind.i64 c.q.2, V.int IntKind.i64 c.q.3, V.int IntKind.i64 c.6, V.bool c.7, V.sl 4 0 0 6 (List.take m (List.drop 0 qs) ++ [[V.int IntKind.i64 (V.toInt ((rs.getD (0 + k.toNat) []).getD 0 V.any)), V.int IntKind.i64 (V.toInt ((rs.getD (0 + k.toNat) []).getD 1 V.any)), V.int IntKind.i64 (V.toInt ((rs.getD (0 + k.toNat) []).getD 2 V.any)), V.int IntKind.i64 (V.toInt ((rs.getD (0 + k.toNat) []).getD 3 V.any)), V.int IntKind.i64 (V.toInt ((rs.getD (0 + k.toNat) []).getD 4 V.any)), V.int IntKind.i64 (V.toInt ((rs.getD (0 + k.toNat) []).getD 5 V.any))]]).length none])), none, some none], new := [Body.rows [K.int IntKind.i64, K.int IntKind.i64, K.int IntKind.i64, K.int IntKind.i64, K.int IntKind.i64, K.int IntKind.i64] (List.take m (List.drop 0 qs) ++ [[V.int IntKind.i64 (V.toInt ((rs.getD (0 + k.toNat) []).getD 0 V.any)), V.int IntKind.i64 (V.toInt ((rs.getD (0 + k.toNat) []).getD 1 V.any)), V.int IntKind.i64 (V.toInt ((rs.getD (0 + k.toNat) []).getD 2 V.any)), V.int IntKind.i64 (V.toInt ((rs.getD (0 + k.toNat) []).getD 3 V.any)), V.int IntKind.i64 (V.toInt ((rs.getD (0 + k.toNat) []).getD 4 V.any)), V.int IntKind.i64 (V.toInt ((rs.getD (0 + k.toNat) []).getD 5 V.any))]])] }) Tree.fail) Tree.fail) Tree.fail) Tree.fail) (Tree.leaf { e := Ex.exit 0, vs := [], upd := [none, none, none, none], new := [] })) := by
  kernel_rfl
theorem owN_round (c : Cfh) (n : Nat) (N k : Int) (rs : List (List V)) : (evRound P (specsOf []) (loopsOf []) 44 [2, 3, 22, 23, 24] [] (loopAt Tryd.f9 0) [.ptr 0 0 0 0, .ptr 1 0 0 0, .sl 2 0 0 6 n none, .int .i64 N, .int .i64 k] [.cells zcV, .cells (cfV c .nils), .rows poK rs]).den = Tree.den (Tree.ite (decide (k < N)) (Tree.ite (decide (0 ≤ k) && decide (k < (↑n : Int))) (Tree.ite (decide (0 + k.toNat < rs.length)) (Tree.leaf { e := Ex.nrm, vs := [V.ptr 0 0 0 0, V.ptr 1 0 0 0, V.sl 2 0 0 6 n none, V.int IntKind.i64 N, V.int IntKind.i64 (IntKind.i64.wrap (k + 1))], upd := [none, some (some (Body.cells [V.int IntKind.u8 c.id.1, V.int IntKind.u8 c.id.2, V.int IntKind.u8 c.id.3, V.int IntKind.u8 c.id.4, V.int IntKind.u8 c.id.5, V.int IntKind.u8 c.id.6, V.int IntKind.u8 c.id.7, V.int IntKind.u8 c.id.8, V.int IntKind.i64 c.2, V.int IntKind.i64 c.3, V.int IntKind.i64 c.4, V.int IntKind.i64 c.q.1, V.int IntKind.i64 c.q.2, V.int IntKind.i64 c.q.3, V.int IntKind.i64 c.6, V.bool c.7, V.sl 3 0 0 6 1 none])), none], new := [Body.rows [K.int IntKind.i64, K.int IntKind.i64, K.int IntKind.i64, K.int IntKind.i64, K.int IntKind.i64, K.int IntKind.i64] [[V.int IntKind.i64 (V.toInt ((rs.getD (0 + k.toNat) []).getD 0 V.any)), V.int IntKind.i64 (V.toInt ((rs.getD (0 + k.toNat) []).getD 1 V.any)), V.int IntKind.i64 (V.toInt ((rs.getD (0 + k.toNat) []).getD 2 V.any)), V.int IntKind.i64 (V.toInt ((rs.getD (0 + k.toNat) []).getD 3 V.any)), V.int IntKind.i64 (V.toInt ((rs.getD (0 + k.toNat) []).getD 4 V.any)), V.int IntKind.i64 (V.toInt ((rs.getD (0 + k.toNat) []).getD 5 V.any))]]] }) Tree.fail) Tree.fail) (Tree.leaf { e := Ex.exit 0, vs := [], upd := [none, none, none], new := [] })) := by
  kernel_rfl
def owR (c : Cfh) (qs : List (List V)) : List Pot → LRes
  | [] => ⟨.exit 0, [], [none, none, none, none], []⟩
  | x :: xs => ⟨.exit 0, [], [none, some (some (.cells (cfV c (.sl 4 0 0 6 (qs ++ poRows (x :: xs)).length none)))), none, some none], [.rows poK (qs ++ poRows (x :: xs))]⟩
theorem owA_all {n : Nat} {c : Cfh} {rs : List (List V)} (hn : n = rs.length) (hn2 : n ≤ 1000) : ∀ (rest : List Pot) (k : Nat) (qs : List (List V)), (pots rs).drop k = rest → k + rest.length = n → qs.length = k →
    (loopN P (specsOf []) (loopsOf []) 44 [2, 3, 22, 23, 24] [] (loopAt Tryd.f9 0) (rest.length + 1) [.ptr 0 0 0 0, .ptr 1 0 0 0, .sl 2 0 0 6 n none, .int .i64 n, .int .i64 k] [.cells zcV, .cells (cfV c (.sl 3 0 0 6 qs.length none)), .rows poK rs, .rows poK qs]).den = some (owR c qs rest) := by
  intro rest
  induction rest with
  | nil =>
    intro k qs hr hk hq
    have hx := owA_round c n qs.length n k rs qs
    rw [decide_eq_false (show ¬ (k : Int) < (n : Int) by simp at hk; omega)] at hx
    exact loopN_end hx (by show Ex.exit 0 ≠ Ex.nrm; decide)
  | cons x xs ih =>
    intro k qs hr hk hq
    simp only [List.length_cons] at hk
    obtain ⟨hx, hd⟩ := drop_po (d := potOf []) hr
    rw [pots_get] at hx
    have e0 : V.toInt ((rs.getD k []).getD 0 V.any) = x.ev := by rw [← hx]; rfl
    have e1 : V.toInt ((rs.getD k []).getD 1 V.any) = x.of_ := by rw [← hx]; rfl
    have e2 : V.toInt ((rs.getD k []).getD 2 V.any) = x.ask := by rw [← hx]; rfl
    have e3 : V.toInt ((rs.getD k []).getD 3 V.any) = x.pa.mn := by rw [← hx]; rfl
    have e4 : V.toInt ((rs.getD k []).getD 4 V.any) = x.pa.mx := by rw [← hx]; rfl
    have e5 : V.toInt ((rs.getD k []).getD 5 V.any) = x.pa.gr := by rw [← hx]; rfl
    have st := owA_round c n qs.length n k rs qs
    have w6 : IntKind.i64.wrap ((k : Int) + 1) = ((k + 1 : Nat) : Int) := by rw [wrap64_id (by omega) (by omega)]; omega
    simp only [Nat.zero_add, Int.toNat_natCast, e0, e1, e2, e3, e4, e5, w6, List.drop_zero, List.take_length] at st
    have hl : (qs ++ [poRow x]).length * 48 ≤ 140737488355328 := by simp; omega
    have st' : (evRound P (specsOf []) (loopsOf []) 44 [2, 3, 22, 23, 24] [] (loopAt Tryd.f9 0) [.ptr 0 0 0 0, .ptr 1 0 0 0, .sl 2 0 0 6 n none, .int .i64 n, .int .i64 k] [.cells zcV, .cells (cfV c (.sl 3 0 0 6 qs.length none)), .rows poK rs, .rows poK qs]).den =
        some ⟨.nrm, [.ptr 0 0 0 0, .ptr 1 0 0 0, .sl 2 0 0 6 n none, .int .i64 n, .int .i64 ((k + 1 : Nat) : Int)], [none, some (some (.cells (cfV c (.sl 4 0 0 6 (qs ++ [poRow x]).length none)))), none, some none], [.rows poK (qs ++ [poRow x])]⟩ := by
      refine st.trans ?_
      rw [decide_eq_true (show (k : Int) < (n : Int) by omega), decide_eq_true (show (0 : Int) ≤ k by omega), decide_eq_true (show k < rs.length by omega), decide_eq_true (Nat.le_refl qs.length)]
      have hl' : (qs ++ [[V.int IntKind.i64 x.ev, V.int IntKind.i64 x.of_, V.int IntKind.i64 x.ask, V.int IntKind.i64 x.pa.mn, V.int IntKind.i64 x.pa.mx, V.int IntKind.i64 x.pa.gr]]).length * 48 ≤ 140737488355328 := hl
      rw [decide_eq_true hl']
      rfl
    clear st
    have ih' := ih (k + 1) (qs ++ [poRow x]) hd (by omega) (by simp; omega)
    refine loopN_step st' rfl (vals' := [.ptr 0 0 0 0, .ptr 1 0 0 0, .sl 2 0 0 6 n none, .int .i64 n, .int .i64 ((k + 1 : Nat) : Int)]) (bs' := [.cells zcV, .cells (cfV c (.sl 3 0 0 6 (qs ++ [poRow x]).length none)), .rows poK rs, .rows poK (qs ++ [poRow x])]) (by kernel_rfl) (by kernel_rfl) (by kernel_rfl) ih' ?_
    cases xs with
    | nil =>
      rw [owR, owR, show qs ++ poRows [x] = qs ++ [poRow x] from rfl]
      (show (seqAfter _ _ _).den = some _; kernel_rfl)
    | cons y ys =>
      rw [owR, owR, show qs ++ poRows (x :: y :: ys) = (qs ++ [poRow x]) ++ poRows (y :: ys) by simp [poRows]]
      (show (seqAfter _ _ _).den = some _; kernel_rfl)
def owF (vals : List V) (bs : List Blk) : Tree LRes := match vals, bs with
  | [.ptr 0 0 0 0, .ptr 1 0 0 0, .sl 2 0 0 6 n none, .int .i64 N, .int .i64 k], [.cells [.int .u8 0, .int .u8 0, .int .u8 0, .int .u8 0, .int .u8 0, .int .u8 0, .int .u8 0, .int .u8 0, .int .i64 0, .int .i64 0, .int .i64 0, .int .i64 0, .int .i64 0, .int .i64 0, .int .i64 0, .fls, .nils], .cells cs, .rows [.int .i64, .int .i64, .int .i64, .int .i64, .int .i64, .int .i64] rs] =>
    match Cfh.p cs with
    | some (c, [.nils]) => .need (decide (n = rs.length) && decide (N = n) && decide (k = 0) && decide (n ≤ 1000)) (.ite (decide (n = 0)) (.leaf ⟨.exit 0, [], [none, none, none], []⟩) (.leaf ⟨.exit 0, [], [none, some (some (.cells (cfV c (.sl 3 0 0 6 n none)))), none], [.rows [.int .i64, .int .i64, .int .i64, .int .i64, .int .i64, .int .i64] (poRows (pots rs))]⟩))
    | _ => .fail
  | _, _ => .fail
def owL : LSpec := ⟨44, [2, 3, 22, 23, 24], [], owF⟩
theorem ow_loop : LoopOK P (loopAt Tryd.f9 0) owL := by
  refine loop_ok (GammaOK.nil P) Go.Proofs.YtkgbphheppfnaaaDoor.hm (Λ := loopsOf []) (LoopsOK.nil (by kernel_rfl)) _ ?_
  intro vals bs r h
  simp only [owL, owF] at h
  split at h
  · split at h
    · rename_i n N k cs rs _ c hc
      rw [Cfh.p_eq hc, cfV_eq]
      rw [den_need, denI, denLf, denLf] at h
      simp only [Bool.and_eq_true, decide_eq_true_eq] at h
      obtain ⟨⟨⟨⟨h1, rfl⟩, rfl⟩, h3⟩, h⟩ := h
      have hpl := pots_len rs
      refine ⟨(pots rs).length + 1, ?_⟩
      by_cases h0 : n = 0
      · rw [if_pos h0] at h; cases h
        have hz : (pots rs).length + 1 = 0 + 1 := by omega
        rw [hz]
        have hx := owN_round c n n 0 rs
        rw [decide_eq_false (show ¬ (0 : Int) < (n : Int) by omega)] at hx
        exact loopN_end hx (by show Ex.exit 0 ≠ Ex.nrm; decide)
      · rw [if_neg h0] at h; cases h
        cases hls : pots rs with
        | nil => rw [hls] at hpl; simp at hpl; omega
        | cons x xs =>
        obtain ⟨hx, hd⟩ := drop_po (ls := pots rs) (k := 0) (d := potOf []) hls
        rw [pots_get] at hx
        rw [hls] at hpl
        simp only [List.length_cons] at hpl
        have e0 : V.toInt ((rs.getD 0 []).getD 0 V.any) = x.ev := by rw [← hx]; rfl
        have e1 : V.toInt ((rs.getD 0 []).getD 1 V.any) = x.of_ := by rw [← hx]; rfl
        have e2 : V.toInt ((rs.getD 0 []).getD 2 V.any) = x.ask := by rw [← hx]; rfl
        have e3 : V.toInt ((rs.getD 0 []).getD 3 V.any) = x.pa.mn := by rw [← hx]; rfl
        have e4 : V.toInt ((rs.getD 0 []).getD 4 V.any) = x.pa.mx := by rw [← hx]; rfl
        have e5 : V.toInt ((rs.getD 0 []).getD 5 V.any) = x.pa.gr := by rw [← hx]; rfl
        have st := owN_round c n n 0 rs
        have w6 : IntKind.i64.wrap ((0 : Int) + 1) = ((1 : Nat) : Int) := by rw [wrap64_id (by omega) (by omega)]; omega
        simp only [Nat.zero_add, Int.toNat_zero, e0, e1, e2, e3, e4, e5, w6] at st
        have st' : (evRound P (specsOf []) (loopsOf []) 44 [2, 3, 22, 23, 24] [] (loopAt Tryd.f9 0) [.ptr 0 0 0 0, .ptr 1 0 0 0, .sl 2 0 0 6 n none, .int .i64 n, .int .i64 0] [.cells zcV, .cells (cfV c .nils), .rows poK rs]).den =
            some ⟨.nrm, [.ptr 0 0 0 0, .ptr 1 0 0 0, .sl 2 0 0 6 n none, .int .i64 n, .int .i64 ((1 : Nat) : Int)], [none, some (some (.cells (cfV c (.sl 3 0 0 6 1 none)))), none], [.rows poK [poRow x]]⟩ := by
          refine st.trans ?_
          rw [decide_eq_true (show (0 : Int) < (n : Int) by omega), decide_eq_true (show 0 < rs.length by omega)]
          rfl
        clear st
        have ih' := owA_all (c := c) h1 h3 xs 1 [poRow x] hd (by omega) rfl
        refine loopN_step st' rfl (vals' := [.ptr 0 0 0 0, .ptr 1 0 0 0, .sl 2 0 0 6 n none, .int .i64 n, .int .i64 ((1 : Nat) : Int)]) (bs' := [.cells zcV, .cells (cfV c (.sl 3 0 0 6 [poRow x].length none)), .rows poK rs, .rows poK [poRow x]]) (by kernel_rfl) (by kernel_rfl) (by kernel_rfl) ih' ?_
        have hn' : n = (poRows (x :: xs)).length := by rw [poRows_len]; simp; omega
        cases xs with
        | nil =>
          have : n = 1 := hn'
          rw [this]
          (show (seqAfter _ _ _).den = some _; kernel_rfl)
        | cons y ys =>
          rw [show V.sl 3 0 0 6 n none = V.sl 3 0 0 6 (poRows (x :: y :: ys)).length none by rw [← hn'], owR, show [poRow x] ++ poRows (y :: ys) = poRows (x :: y :: ys) from rfl]
          (show (seqAfter _ _ _).den = some _; kernel_rfl)
    · simp [den_fail] at h
  · simp [den_fail] at h
def owS : Rx.Spec := fun a b => match a with
  | [.agg cs] => match Cfh.p cs with
    | some (c, [.sl 0 0 0 6 n none]) => match b with
      | [.rows [.int .i64, .int .i64, .int .i64, .int .i64, .int .i64, .int .i64] rs] => .need (decide (n = rs.length) && decide (n ≤ 1000)) (.ite (decide (n = 0)) (.leaf ⟨.agg (c.vs ++ [.nils]), [none], []⟩) (.leaf ⟨.agg (c.vs ++ [.sl 1 0 0 6 n none]), [none], [.rows [.int .i64, .int .i64, .int .i64, .int .i64, .int .i64, .int .i64] (poRows (pots rs))]⟩))
      | _ => .fail
    | _ => .fail
  | _ => .fail
theorem ow_ok : SpecOK P 9 owS := by
  refine specOK_fast (GammaOK.nil P) hm (Λ := loopsOf [(3, owL)]) Tryd.func9 (by kernel_rfl) (LoopsOK.one (by kernel_rfl) ow_loop) ?_
  intro args bs r h
  unfold owS at h
  split at h
  · split at h
    · split at h
      · rename_i cs _ c n hc _ rs
        rw [Cfh.p_eq hc]
        rw [den_need, denI, denLf, denLf] at h
        simp only [Bool.and_eq_true, decide_eq_true_eq] at h
        obtain ⟨⟨h1, h2⟩, h⟩ := h
        rw [show (fFn P (specsOf []) (loopsOf [(3, owL)]) Tryd.f9 [.agg (c.vs ++ [.sl 0 0 0 6 n none])] [.rows poK rs]).denN = Tree.denN (Tree.ite (decide (n = rs.length) && decide ((↑n : Int) = (↑n : Int)) && true && decide (n ≤ 1000)) (Tree.ite (decide (n = 0)) (Tree.leaf { v := V.agg [V.int IntKind.u8 c.id.1, V.int IntKind.u8 c.id.2, V.int IntKind.u8 c.id.3, V.int IntKind.u8 c.id.4, V.int IntKind.u8 c.id.5, V.int IntKind.u8 c.id.6, V.int IntKind.u8 c.id.7, V.int IntKind.u8 c.id.8, V.int IntKind.i64 c.2, V.int IntKind.i64 c.3, V.int IntKind.i64 c.4, V.int IntKind.i64 c.q.1, V.int IntKind.i64 c.q.2, V.int IntKind.i64 c.q.3, V.int IntKind.i64 c.6, V.bool c.7, V.nils], upd := [none], new := [] }) (Tree.leaf { v := V.agg [V.int IntKind.u8 c.id.1, V.int IntKind.u8 c.id.2, V.int IntKind.u8 c.id.3, V.int IntKind.u8 c.id.4, V.int IntKind.u8 c.id.5, V.int IntKind.u8 c.id.6, V.int IntKind.u8 c.id.7, V.int IntKind.u8 c.id.8, V.int IntKind.i64 c.2, V.int IntKind.i64 c.3, V.int IntKind.i64 c.4, V.int IntKind.i64 c.q.1, V.int IntKind.i64 c.q.2, V.int IntKind.i64 c.q.3, V.int IntKind.i64 c.6, V.bool c.7, V.sl 1 0 0 6 n none], upd := [none], new := [Body.rows [K.int IntKind.i64, K.int IntKind.i64, K.int IntKind.i64, K.int IntKind.i64, K.int IntKind.i64, K.int IntKind.i64] (poRows (pots rs))] })) Tree.fail) from by kernel_rfl]
        simp only [denN_ite, denN_leaf, denN_fail, decide_eq_true h1, decide_eq_true h2, decide_true]
        by_cases h0 : n = 0
        · rw [if_pos h0] at h; cases h
          rw [decide_eq_true h0]; rfl
        · rw [if_neg h0] at h; cases h
          rw [decide_eq_false h0]; rfl
      · simp [den_fail] at h
    · simp [den_fail] at h
  · simp [den_fail] at h
end Go.Proofs.YtkgbphheppfnaaaDoor

set_option maxRecDepth 100000
set_option linter.unusedSimpArgs false
set_option linter.unusedVariables false
namespace Go.Proofs.YtkgbphheppfnaaaDoor
open Go.Rx
/-- A hexadecimal digit's value; below 0: it is none. -/
def hexV (n : Int) : Int := if 48 ≤ n ∧ n ≤ 57 then n - 48 else if 97 ≤ n ∧ n ≤ 102 then n - 87 else -1
def vaS : Rx.Spec := fun a b => match a, b with
  | [.int .u8 n], [] => .leaf ⟨.int .i64 (hexV n), [], []⟩
  | _, _ => .fail
theorem wrapu8_id {n : Int} (h0 : 0 ≤ n) (h1 : n ≤ 255) : IntKind.u8.wrap n = n := by
  simp only [IntKind.wrap, show IntKind.u8.bits = 8 by decide, show IntKind.u8.signed = false by decide]
  simp
  omega
theorem hexV_d {n : Int} (h : 48 ≤ n ∧ n ≤ 57) : hexV n = n - 48 := if_pos h
theorem hexV_h {n : Int} (h : 97 ≤ n ∧ n ≤ 102) : hexV n = n - 87 := by unfold hexV; rw [if_neg (by omega), if_pos h]
theorem hexV_n {n : Int} (h : ¬ (48 ≤ n ∧ n ≤ 57)) (h2 : ¬ (97 ≤ n ∧ n ≤ 102)) : hexV n = -1 := by unfold hexV; rw [if_neg h, if_neg h2]
theorem va_ok : SpecOK P 61 vaS := by
  refine specOK_fast (GammaOK.nil P) hm (Λ := loopsOf []) Tryd.func61 (by kernel_rfl) (LoopsOK.nil (by kernel_rfl)) ?_
  intro args bs r h
  unfold vaS at h
  split at h
  · rename_i n
    rw [denLf] at h; cases h
    rw [show (fFn P (specsOf []) (loopsOf []) Tryd.f61 [.int .u8 n] []).denN = Tree.denN (Tree.ite (decide (n ≥ 48)) (Tree.ite (decide (n ≤ 57)) (Tree.leaf { v := V.int IntKind.i64 (IntKind.i64.wrap (IntKind.u8.wrap (n - 48))), upd := [], new := [] }) (Tree.ite (decide (n ≥ 97)) (Tree.ite (decide (n ≤ 102)) (Tree.leaf { v := V.int IntKind.i64 (IntKind.i64.wrap (IntKind.i64.wrap (IntKind.u8.wrap (n - 97)) + 10)), upd := [], new := [] }) (Tree.leaf { v := V.int IntKind.i64 (-1), upd := [], new := [] })) (Tree.leaf { v := V.int IntKind.i64 (-1), upd := [], new := [] }))) (Tree.ite (decide (n ≥ 97)) (Tree.ite (decide (n ≤ 102)) (Tree.leaf { v := V.int IntKind.i64 (IntKind.i64.wrap (IntKind.i64.wrap (IntKind.u8.wrap (n - 97)) + 10)), upd := [], new := [] }) (Tree.leaf { v := V.int IntKind.i64 (-1), upd := [], new := [] })) (Tree.leaf { v := V.int IntKind.i64 (-1), upd := [], new := [] }))) from by kernel_rfl]
    simp only [denN_ite, denN_leaf, denN_fail]
    by_cases h1 : n ≥ 48
    · by_cases h2 : n ≤ 57
      · rw [decide_eq_true h1, decide_eq_true h2, hexV_d ⟨h1, h2⟩, wrapu8_id (n := n - 48) (by omega) (by omega), wrap64_id (n := n - 48) (by omega) (by omega)]
        rfl
      · rw [decide_eq_true h1, decide_eq_false h2]
        by_cases h3 : n ≥ 97
        · by_cases h4 : n ≤ 102
          · rw [decide_eq_true h3, decide_eq_true h4, hexV_h ⟨h3, h4⟩, wrapu8_id (n := n - 97) (by omega) (by omega), wrap64_id (n := n - 97) (by omega) (by omega), wrap64_id (n := n - 97 + 10) (by omega) (by omega), show n - 97 + 10 = n - 87 by omega]
            rfl
          · rw [decide_eq_true h3, decide_eq_false h4, hexV_n (by omega) (by omega)]
            rfl
        · rw [decide_eq_false h3, hexV_n (by omega) (by omega)]
          rfl
    · rw [decide_eq_false h1, decide_eq_false (show ¬ n ≥ 97 by omega), hexV_n (by omega) (by omega)]
      rfl
  · simp [den_fail] at h
theorem hexV_lt (n : Int) : hexV n < 16 := by
  unfold hexV
  split
  · omega
  · split
    · omega
    · omega
theorem hexor : ∀ a b : Fin 16, IntKind.u8.wrap (bOr .i64 (IntKind.i64.wrap ((a.1 : Int) * 16)) (b.1 : Int)) = (a.1 : Int) * 16 + (b.1 : Int) := by decide +kernel
theorem hexor' {a b : Int} (h0 : decide (a < 0) = false) (h1 : decide (b < 0) = false) (h2 : a < 16) (h3 : b < 16) : IntKind.u8.wrap (bOr .i64 (IntKind.i64.wrap (a * 16)) b) = a * 16 + b := by
  have h0 := of_decide_eq_false h0
  have h1 := of_decide_eq_false h1
  have := hexor ⟨a.toNat, by omega⟩ ⟨b.toNat, by omega⟩
  simp only at this
  rwa [show ((a.toNat : Nat) : Int) = a by omega, show ((b.toNat : Nat) : Int) = b by omega] at this
/-- Are these sixteen hexadecimal digits? -/
def rdOK (s : ByteArray) : Bool := (!decide (hexV (sAt s 0) < 0)) && ((!decide (hexV (sAt s 1) < 0)) && ((!decide (hexV (sAt s 2) < 0)) && ((!decide (hexV (sAt s 3) < 0)) && ((!decide (hexV (sAt s 4) < 0)) && ((!decide (hexV (sAt s 5) < 0)) && ((!decide (hexV (sAt s 6) < 0)) && ((!decide (hexV (sAt s 7) < 0)) && ((!decide (hexV (sAt s 8) < 0)) && ((!decide (hexV (sAt s 9) < 0)) && ((!decide (hexV (sAt s 10) < 0)) && ((!decide (hexV (sAt s 11) < 0)) && ((!decide (hexV (sAt s 12) < 0)) && ((!decide (hexV (sAt s 13) < 0)) && ((!decide (hexV (sAt s 14) < 0)) && ((!decide (hexV (sAt s 15) < 0)))))))))))))))))
def rdC (s : ByteArray) : Ck := ⟨hexV (sAt s 0) * 16 + hexV (sAt s 1), hexV (sAt s 2) * 16 + hexV (sAt s 3), hexV (sAt s 4) * 16 + hexV (sAt s 5), hexV (sAt s 6) * 16 + hexV (sAt s 7), hexV (sAt s 8) * 16 + hexV (sAt s 9), hexV (sAt s 10) * 16 + hexV (sAt s 11), hexV (sAt s 12) * 16 + hexV (sAt s 13), hexV (sAt s 14) * 16 + hexV (sAt s 15)⟩
def rdS : Rx.Spec := fun a b => match a, b with
  | [.str s], [] => .ite (decide ((s.size : Int) = 16) && rdOK s) (.leaf ⟨.tup [(rdC s).v, .tru], [], []⟩) (.leaf ⟨.tup [Ck.zero.v, .fls], [], []⟩)
  | _, _ => .fail
abbrev rdG : List (Nat × Rx.Spec) := [(61, vaS)]
theorem rdG_ok : GammaOK P rdG := .cons va_ok (.nil P)
noncomputable abbrev rdL : LSpec := fUnroll P (specsOf rdG) (loopsOf []) Tryd.f53 (loopAt Tryd.f53 0) 9
theorem rd_loop : LoopOK P (loopAt Tryd.f53 0) rdL := fUnroll_ok rdG_ok hm (Λ := loopsOf []) (LoopsOK.nil (by kernel_rfl)) _ _
theorem rd_ok : SpecOK P 53 rdS := by
  refine specOK_fast rdG_ok hm (Λ := loopsOf [(5, rdL)]) Tryd.func53 (by kernel_rfl) (LoopsOK.one (by kernel_rfl) rd_loop) ?_
  intro args bs r h
  unfold rdS at h
  split at h
  · rename_i s
    rw [show (fFn P (specsOf rdG) (loopsOf [(5, rdL)]) Tryd.f53 [.str s] []).denN = Tree.denN (Tree.ite ((↑s.size : Int) != 16) (Tree.leaf { v := V.tup [V.agg [V.int IntKind.u8 0, V.int IntKind.u8 0, V.int IntKind.u8 0, V.int IntKind.u8 0, V.int IntKind.u8 0, V.int IntKind.u8 0, V.int IntKind.u8 0, V.int IntKind.u8 0], V.fls], upd := [], new := [] }) (Tree.ite (true && decide (0 < (↑s.size : Int))) (Tree.ite (true && decide (1 < (↑s.size : Int))) (Tree.ite (decide (hexV (sAt s 0) < 0)) (Tree.leaf { v := V.tup [V.agg [V.int IntKind.u8 0, V.int IntKind.u8 0, V.int IntKind.u8 0, V.int IntKind.u8 0, V.int IntKind.u8 0, V.int IntKind.u8 0, V.int IntKind.u8 0, V.int IntKind.u8 0], V.fls], upd := [], new := [] }) (Tree.ite (decide (hexV (sAt s 1) < 0)) (Tree.leaf { v := V.tup [V.agg [V.int IntKind.u8 0, V.int IntKind.u8 0, V.int IntKind.u8 0, V.int IntKind.u8 0, V.int IntKind.u8 0, V.int IntKind.u8 0, V.int IntKind.u8 0, V.int IntKind.u8 0], V.fls], upd := [], new := [] }) (Tree.ite (true && decide (2 < (↑s.size : Int))) (Tree.ite (true && decide (3 < (↑s.size : Int))) (Tree.ite (decide (hexV (sAt s 2) < 0)) (Tree.leaf { v := V.tup [V.agg [V.int IntKind.u8 0, V.int IntKind.u8 0, V.int IntKind.u8 0, V.int IntKind.u8 0, V.int IntKind.u8 0, V.int IntKind.u8 0, V.int IntKind.u8 0, V.int IntKind.u8 0], V.fls], upd := [], new := [] }) (Tree.ite (decide (hexV (sAt s 3) < 0)) (Tree.leaf { v := V.tup [V.agg [V.int IntKind.u8 0, V.int IntKind.u8 0, V.int IntKind.u8 0, V.int IntKind.u8 0, V.int IntKind.u8 0, V.int IntKind.u8 0, V.int IntKind.u8 0, V.int IntKind.u8 0], V.fls], upd := [], new := [] }) (Tree.ite (true && decide (4 < (↑s.size : Int))) (Tree.ite (true && decide (5 < (↑s.size : Int))) (Tree.ite (decide (hexV (sAt s 4) < 0)) (Tree.leaf { v := V.tup [V.agg [V.int IntKind.u8 0, V.int IntKind.u8 0, V.int IntKind.u8 0, V.int IntKind.u8 0, V.int IntKind.u8 0, V.int IntKind.u8 0, V.int IntKind.u8 0, V.int IntKind.u8 0], V.fls], upd := [], new := [] }) (Tree.ite (decide (hexV (sAt s 5) < 0)) (Tree.leaf { v := V.tup [V.agg [V.int IntKind.u8 0, V.int IntKind.u8 0, V.int IntKind.u8 0, V.int IntKind.u8 0, V.int IntKind.u8 0, V.int IntKind.u8 0, V.int IntKind.u8 0, V.int IntKind.u8 0], V.fls], upd := [], new := [] }) (Tree.ite (true && decide (6 < (↑s.size : Int))) (Tree.ite (true && decide (7 < (↑s.size : Int))) (Tree.ite (decide (hexV (sAt s 6) < 0)) (Tree.leaf { v := V.tup [V.agg [V.int IntKind.u8 0, V.int IntKind.u8 0, V.int IntKind.u8 0, V.int IntKind.u8 0, V.int IntKind.u8 0, V.int IntKind.u8 0, V.int IntKind.u8 0, V.int IntKind.u8 0], V.fls], upd := [], new := [] }) (Tree.ite (decide (hexV (sAt s 7) < 0)) (Tree.leaf { v := V.tup [V.agg [V.int IntKind.u8 0, V.int IntKind.u8 0, V.int IntKind.u8 0, V.int IntKind.u8 0, V.int IntKind.u8 0, V.int IntKind.u8 0, V.int IntKind.u8 0, V.int IntKind.u8 0], V.fls], upd := [], new := [] }) (Tree.ite (true && decide (8 < (↑s.size : Int))) (Tree.ite (true && decide (9 < (↑s.size : Int))) (Tree.ite (decide (hexV (sAt s 8) < 0)) (Tree.leaf { v := V.tup [V.agg [V.int IntKind.u8 0, V.int IntKind.u8 0, V.int IntKind.u8 0, V.int IntKind.u8 0, V.int IntKind.u8 0, V.int IntKind.u8 0, V.int IntKind.u8 0, V.int IntKind.u8 0], V.fls], upd := [], new := [] }) (Tree.ite (decide (hexV (sAt s 9) < 0)) (Tree.leaf { v := V.tup [V.agg [V.int IntKind.u8 0, V.int IntKind.u8 0, V.int IntKind.u8 0, V.int IntKind.u8 0, V.int IntKind.u8 0, V.int IntKind.u8 0, V.int IntKind.u8 0, V.int IntKind.u8 0], V.fls], upd := [], new := [] }) (Tree.ite (true && decide (10 < (↑s.size : Int))) (Tree.ite (true && decide (11 < (↑s.size : Int))) (Tree.ite (decide (hexV (sAt s 10) < 0)) (Tree.leaf { v := V.tup [V.agg [V.int IntKind.u8 0, V.int IntKind.u8 0, V.int IntKind.u8 0, V.int IntKind.u8 0, V.int IntKind.u8 0, V.int IntKind.u8 0, V.int IntKind.u8 0, V.int IntKind.u8 0], V.fls], upd := [], new := [] }) (Tree.ite (decide (hexV (sAt s 11) < 0)) (Tree.leaf { v := V.tup [V.agg [V.int IntKind.u8 0, V.int IntKind.u8 0, V.int IntKind.u8 0, V.int IntKind.u8 0, V.int IntKind.u8 0, V.int IntKind.u8 0, V.int IntKind.u8 0, V.int IntKind.u8 0], V.fls], upd := [], new := [] }) (Tree.ite (true && decide (12 < (↑s.size : Int))) (Tree.ite (true && decide (13 < (↑s.size : Int))) (Tree.ite (decide (hexV (sAt s 12) < 0)) (Tree.leaf { v := V.tup [V.agg [V.int IntKind.u8 0, V.int IntKind.u8 0, V.int IntKind.u8 0, V.int IntKind.u8 0, V.int IntKind.u8 0, V.int IntKind.u8 0, V.int IntKind.u8 0, V.int IntKind.u8 0], V.fls], upd := [], new := [] }) (Tree.ite (decide (hexV (sAt s 13) < 0)) (Tree.leaf { v := V.tup [V.agg [V.int IntKind.u8 0, V.int IntKind.u8 0, V.int IntKind.u8 0, V.int IntKind.u8 0, V.int IntKind.u8 0, V.int IntKind.u8 0, V.int IntKind.u8 0, V.int IntKind.u8 0], V.fls], upd := [], new := [] }) (Tree.ite (true && decide (14 < (↑s.size : Int))) (Tree.ite (true && decide (15 < (↑s.size : Int))) (Tree.ite (decide (hexV (sAt s 14) < 0)) (Tree.leaf { v := V.tup [V.agg [V.int IntKind.u8 0, V.int IntKind.u8 0, V.int IntKind.u8 0, V.int IntKind.u8 0, V.int IntKind.u8 0, V.int IntKind.u8 0, V.int IntKind.u8 0, V.int IntKind.u8 0], V.fls], upd := [], new := [] }) (Tree.ite (decide (hexV (sAt s 15) < 0)) (Tree.leaf { v := V.tup [V.agg [V.int IntKind.u8 0, V.int IntKind.u8 0, V.int IntKind.u8 0, V.int IntKind.u8 0, V.int IntKind.u8 0, V.int IntKind.u8 0, V.int IntKind.u8 0, V.int IntKind.u8 0], V.fls], upd := [], new := [] }) (Tree.leaf { v := V.tup [V.agg [V.int IntKind.u8 (IntKind.u8.wrap (bOr IntKind.i64 (IntKind.i64.wrap (hexV (sAt s 0) * 16)) (hexV (sAt s 1)))), V.int IntKind.u8 (IntKind.u8.wrap (bOr IntKind.i64 (IntKind.i64.wrap (hexV (sAt s 2) * 16)) (hexV (sAt s 3)))), V.int IntKind.u8 (IntKind.u8.wrap (bOr IntKind.i64 (IntKind.i64.wrap (hexV (sAt s 4) * 16)) (hexV (sAt s 5)))), V.int IntKind.u8 (IntKind.u8.wrap (bOr IntKind.i64 (IntKind.i64.wrap (hexV (sAt s 6) * 16)) (hexV (sAt s 7)))), V.int IntKind.u8 (IntKind.u8.wrap (bOr IntKind.i64 (IntKind.i64.wrap (hexV (sAt s 8) * 16)) (hexV (sAt s 9)))), V.int IntKind.u8 (IntKind.u8.wrap (bOr IntKind.i64 (IntKind.i64.wrap (hexV (sAt s 10) * 16)) (hexV (sAt s 11)))), V.int IntKind.u8 (IntKind.u8.wrap (bOr IntKind.i64 (IntKind.i64.wrap (hexV (sAt s 12) * 16)) (hexV (sAt s 13)))), V.int IntKind.u8 (IntKind.u8.wrap (bOr IntKind.i64 (IntKind.i64.wrap (hexV (sAt s 14) * 16)) (hexV (sAt s 15))))], V.tru], upd := [], new := [] }))) Tree.fail) Tree.fail))) Tree.fail) Tree.fail))) Tree.fail) Tree.fail))) Tree.fail) Tree.fail))) Tree.fail) Tree.fail))) Tree.fail) Tree.fail))) Tree.fail) Tree.fail))) Tree.fail) Tree.fail)) from by kernel_rfl]
    by_cases hs : (s.size : Int) = 16
    · rw [decide_eq_true hs, Bool.true_and] at h
      simp only [hs]
      unfold rdOK at h

      cases h0 : decide (hexV (sAt s 0) < 0) with
      | true =>
        rw [h0, Bool.not_true, Bool.false_and] at h
        rw [denI, denLf] at h; cases h; rfl
      | false =>
        rw [h0, Bool.not_false, Bool.true_and] at h
        cases h1 : decide (hexV (sAt s 1) < 0) with
        | true =>
          rw [h1, Bool.not_true, Bool.false_and] at h
          rw [denI, denLf] at h; cases h; rfl
        | false =>
          rw [h1, Bool.not_false, Bool.true_and] at h
          cases h2 : decide (hexV (sAt s 2) < 0) with
          | true =>
            rw [h2, Bool.not_true, Bool.false_and] at h
            rw [denI, denLf] at h; cases h; rfl
          | false =>
            rw [h2, Bool.not_false, Bool.true_and] at h
            cases h3 : decide (hexV (sAt s 3) < 0) with
            | true =>
              rw [h3, Bool.not_true, Bool.false_and] at h
              rw [denI, denLf] at h; cases h; rfl
            | false =>
              rw [h3, Bool.not_false, Bool.true_and] at h
              cases h4 : decide (hexV (sAt s 4) < 0) with
              | true =>
                rw [h4, Bool.not_true, Bool.false_and] at h
                rw [denI, denLf] at h; cases h; rfl
              | false =>
                rw [h4, Bool.not_false, Bool.true_and] at h
                cases h5 : decide (hexV (sAt s 5) < 0) with
                | true =>
                  rw [h5, Bool.not_true, Bool.false_and] at h
                  rw [denI, denLf] at h; cases h; rfl
                | false =>
                  rw [h5, Bool.not_false, Bool.true_and] at h
                  cases h6 : decide (hexV (sAt s 6) < 0) with
                  | true =>
                    rw [h6, Bool.not_true, Bool.false_and] at h
                    rw [denI, denLf] at h; cases h; rfl
                  | false =>
                    rw [h6, Bool.not_false, Bool.true_and] at h
                    cases h7 : decide (hexV (sAt s 7) < 0) with
                    | true =>
                      rw [h7, Bool.not_true, Bool.false_and] at h
                      rw [denI, denLf] at h; cases h; rfl
                    | false =>
                      rw [h7, Bool.not_false, Bool.true_and] at h
                      cases h8 : decide (hexV (sAt s 8) < 0) with
                      | true =>
                        rw [h8, Bool.not_true, Bool.false_and] at h
                        rw [denI, denLf] at h; cases h; rfl
                      | false =>
                        rw [h8, Bool.not_false, Bool.true_and] at h
                        cases h9 : decide (hexV (sAt s 9) < 0) with
                        | true =>
                          rw [h9, Bool.not_true, Bool.false_and] at h
                          rw [denI, denLf] at h; cases h; rfl
                        | false =>
                          rw [h9, Bool.not_false, Bool.true_and] at h
                          cases h10 : decide (hexV (sAt s 10) < 0) with
                          | true =>
                            rw [h10, Bool.not_true, Bool.false_and] at h
                            rw [denI, denLf] at h; cases h; rfl
                          | false =>
                            rw [h10, Bool.not_false, Bool.true_and] at h
                            cases h11 : decide (hexV (sAt s 11) < 0) with
                            | true =>
                              rw [h11, Bool.not_true, Bool.false_and] at h
                              rw [denI, denLf] at h; cases h; rfl
                            | false =>
                              rw [h11, Bool.not_false, Bool.true_and] at h
                              cases h12 : decide (hexV (sAt s 12) < 0) with
                              | true =>
                                rw [h12, Bool.not_true, Bool.false_and] at h
                                rw [denI, denLf] at h; cases h; rfl
                              | false =>
                                rw [h12, Bool.not_false, Bool.true_and] at h
                                cases h13 : decide (hexV (sAt s 13) < 0) with
                                | true =>
                                  rw [h13, Bool.not_true, Bool.false_and] at h
                                  rw [denI, denLf] at h; cases h; rfl
                                | false =>
                                  rw [h13, Bool.not_false, Bool.true_and] at h
                                  cases h14 : decide (hexV (sAt s 14) < 0) with
                                  | true =>
                                    rw [h14, Bool.not_true, Bool.false_and] at h
                                    rw [denI, denLf] at h; cases h; rfl
                                  | false =>
                                    rw [h14, Bool.not_false, Bool.true_and] at h
                                    cases h15 : decide (hexV (sAt s 15) < 0) with
                                    | true =>
                                      rw [h15, Bool.not_true] at h
                                      rw [denI, denLf] at h; cases h; rfl
                                    | false =>
                                      rw [h15, Bool.not_false] at h
                                      rw [denI, denLf] at h; cases h
                                      unfold rdC
                                      rw [← hexor' h0 h1 (hexV_lt _) (hexV_lt _), ← hexor' h2 h3 (hexV_lt _) (hexV_lt _), ← hexor' h4 h5 (hexV_lt _) (hexV_lt _), ← hexor' h6 h7 (hexV_lt _) (hexV_lt _), ← hexor' h8 h9 (hexV_lt _) (hexV_lt _), ← hexor' h10 h11 (hexV_lt _) (hexV_lt _), ← hexor' h12 h13 (hexV_lt _) (hexV_lt _), ← hexor' h14 h15 (hexV_lt _) (hexV_lt _)]
                                      rfl
    · rw [decide_eq_false hs, Bool.false_and] at h
      rw [denI, denLf] at h; cases h
      rw [show ((s.size : Int) != 16) = true by simpa using hs]
      rfl
  · simp [den_fail] at h
end Go.Proofs.YtkgbphheppfnaaaDoor

set_option maxRecDepth 100000
set_option linter.unusedSimpArgs false
set_option linter.unusedVariables false
namespace Go.Proofs.YtkgbphheppfnaaaDoor
open Go.Rx
noncomputable abbrev hpG : List (Nat × Rx.Spec) := [(86, fFn P (specsOf []) (loopsOf []) Tryd.f86)]
theorem hpG_ok : GammaOK P hpG := .cons (inl_ok (GammaOK.nil P) hm Tryd.func86 (by kernel_rfl) (LoopsOK.nil (by kernel_rfl))) (.nil P)
noncomputable abbrev tpG : List (Nat × Rx.Spec) := [(73, fFn P (specsOf hpG) (loopsOf []) Tryd.f73)]
theorem tpG_ok : GammaOK P tpG := .cons (inl_ok hpG_ok hm Tryd.func73 (by kernel_rfl) (LoopsOK.nil (by kernel_rfl))) (.nil P)
noncomputable abbrev nuG : List (Nat × Rx.Spec) := [(59, atoS), (41, itoS), (60, fFn P (specsOf tpG) (loopsOf []) Tryd.f60)]
theorem nuG_ok : GammaOK P nuG := .cons ato_ok (.cons ito_ok (.cons (inl_ok tpG_ok hm Tryd.func60 (by kernel_rfl) (LoopsOK.nil (by kernel_rfl))) (.nil P)))
/-- A text without its sign. -/
def trS (s : ByteArray) : ByteArray := bif decide ((s.size : Int) ≥ 1) && sEq (s.extract 0 1) ⟨#[45]⟩ then s.extract 1 s.size else s
/-- Is it a number as it is printed? -/
def nuB (s : ByteArray) : Bool := atoK s && decide (((trS s).size : Int) ≤ 18) && sEq (itoaS (atoV s)) s
theorem atoV_lt (s : ByteArray) : -9223372036854775808 ≤ atoV s ∧ atoV s ≤ 9223372036854775807 := by
  unfold atoV
  cases h : Lib.atoiAll s.data.toList with
  | ok v => exact Lib.atoiAll_bounds h
  | «syntax» => exact ⟨by show (-9223372036854775808 : Int) ≤ 0; decide, by show (0 : Int) ≤ 9223372036854775807; decide⟩
  | range => exact Lib.atoiSat_bounds _
def nuS : Rx.Spec := fun a b => match a, b with
  | [.str s], [] => .need (decide (s.size ≤ 281474976710656)) (.leaf ⟨.tup [.int .i64 (atoV s), .bool (nuB s)], [], []⟩)
  | _, _ => .fail
theorem nu_ok : SpecOK P 52 nuS := by
  refine specOK_fast nuG_ok hm (Λ := loopsOf []) Tryd.func52 (by kernel_rfl) (LoopsOK.nil (by kernel_rfl)) ?_
  intro args bs r h
  unfold nuS at h
  split at h
  · rename_i s
    rw [den_need, denLf] at h
    obtain ⟨h1, h⟩ := h
    cases h
    rw [show (fFn P (specsOf nuG) (loopsOf []) Tryd.f52 [.str s] []).denN = Tree.denN (Tree.ite (decide (s.size ≤ 281474976710656)) (Tree.ite (atoK s) (Tree.ite (decide ((↑s.size : Int) ≥ 1)) (Tree.ite (true && decide (1 ≤ (↑s.size : Int))) (Tree.ite (sEq (s.extract 0 1) ({ data := #[OfNat.ofNat 45] } : ByteArray)) (Tree.ite (true && decide (1 ≤ (↑s.size : Int)) && decide ((↑s.size : Int) ≤ (↑s.size : Int))) (Tree.ite (decide ((↑(s.extract 1 s.size).size : Int) ≤ 18)) (Tree.ite (decide (-9223372036854775808 ≤ atoV s) && decide (atoV s ≤ 9223372036854775807)) (Tree.leaf { v := V.tup [V.int IntKind.i64 (atoV s), V.bool (sEq (itoaS (atoV s)) s)], upd := [], new := [] }) Tree.fail) (Tree.leaf { v := V.tup [V.int IntKind.i64 (atoV s), V.fls], upd := [], new := [] })) Tree.fail) (Tree.ite (decide ((↑s.size : Int) ≤ 18)) (Tree.ite (decide (-9223372036854775808 ≤ atoV s) && decide (atoV s ≤ 9223372036854775807)) (Tree.leaf { v := V.tup [V.int IntKind.i64 (atoV s), V.bool (sEq (itoaS (atoV s)) s)], upd := [], new := [] }) Tree.fail) (Tree.leaf { v := V.tup [V.int IntKind.i64 (atoV s), V.fls], upd := [], new := [] }))) Tree.fail) (Tree.ite (decide ((↑s.size : Int) ≤ 18)) (Tree.ite (decide (-9223372036854775808 ≤ atoV s) && decide (atoV s ≤ 9223372036854775807)) (Tree.leaf { v := V.tup [V.int IntKind.i64 (atoV s), V.bool (sEq (itoaS (atoV s)) s)], upd := [], new := [] }) Tree.fail) (Tree.leaf { v := V.tup [V.int IntKind.i64 (atoV s), V.fls], upd := [], new := [] }))) (Tree.leaf { v := V.tup [V.int IntKind.i64 (atoV s), V.fls], upd := [], new := [] })) Tree.fail) from by kernel_rfl]
    obtain ⟨v0, v1⟩ := atoV_lt s
    have hv : (decide (-9223372036854775808 ≤ atoV s) && decide (atoV s ≤ 9223372036854775807)) = true := by rw [decide_eq_true v0, decide_eq_true v1]; rfl
    rw [h1, hv]
    cases hk : atoK s with
    | false =>
      rw [show nuB s = false by unfold nuB; rw [hk]; rfl]; rfl
    | true =>
      by_cases hs : (s.size : Int) ≥ 1
      · have hs' : (1 : Int) ≤ s.size := hs
        rw [decide_eq_true hs, decide_eq_true (Int.le_refl _)]
        cases hq : sEq (s.extract 0 1) ({ data := #[OfNat.ofNat 45] } : ByteArray) with
        | true =>
          have ht : trS s = s.extract 1 s.size := by unfold trS; rw [decide_eq_true hs, Bool.true_and, hq]; rfl
          cases hl : decide (((s.extract 1 s.size).size : Int) ≤ 18) with
          | true => rw [show nuB s = sEq (itoaS (atoV s)) s by unfold nuB; rw [hk, ht, hl]; rfl]; rfl
          | false => rw [show nuB s = false by unfold nuB; rw [hk, ht, hl]; rfl]; rfl
        | false =>
          have ht : trS s = s := by unfold trS; rw [decide_eq_true hs, Bool.true_and, hq]; rfl
          cases hl : decide ((s.size : Int) ≤ 18) with
          | true => rw [show nuB s = sEq (itoaS (atoV s)) s by unfold nuB; rw [hk, ht, hl]; rfl]; rfl
          | false => rw [show nuB s = false by unfold nuB; rw [hk, ht, hl]; rfl]; rfl
      · have ht : trS s = s := by unfold trS; rw [decide_eq_false hs, Bool.false_and]; rfl
        rw [decide_eq_false hs]
        cases hl : decide ((s.size : Int) ≤ 18) with
        | true => rw [show nuB s = sEq (itoaS (atoV s)) s by unfold nuB; rw [hk, ht, hl]; rfl]; rfl
        | false => rw [show nuB s = false by unfold nuB; rw [hk, ht, hl]; rfl]; rfl
  · simp [den_fail] at h
/-- Texts in rows. -/
def strs (l : List ByteArray) : List (List V) := l.map fun p => [V.str p]
def txs (rs : List (List V)) : List ByteArray := rs.map fun r => V.toStr (r.getD 0 .any)
theorem txs_strs (l : List ByteArray) : txs (strs l) = l := by
  simp only [txs, strs, List.map_map]
  conv => rhs; rw [← List.map_id l]
  exact List.map_congr_left fun x _ => rfl
theorem parts_len {s sep : ByteArray} (h : 1 ≤ sep.size) : (parts s sep).length = Lib.countB s sep + 1 := Lib.splitB_all sep h 0 _ s rfl
def sp2 : Rx.Spec := fun a b => match a, b with
  | [.str s, .str sep], [] => .need (decide (s.size < 4294967281) && decide (1 ≤ sep.size)) (.leaf ⟨.sl 0 0 0 1 (parts s sep).length none, [], [.rows [.str] (strs (parts s sep))]⟩)
  | _, _ => .fail
theorem sp2_ok : SpecOK P 36 sp2 := by
  refine specGive spl_ok fun args bs r h => ?_
  unfold sp2 at h
  split at h
  · rename_i s sep
    rw [den_need, denLf] at h
    simp only [Bool.and_eq_true, decide_eq_true_eq] at h
    obtain ⟨⟨h1, h2⟩, h⟩ := h
    cases h
    refine ⟨[], ?_, trivial⟩
    show (Tree.need _ (.leaf _)).denN = _
    rw [decide_eq_true h1, decide_eq_true h2, decide_eq_true (parts_len h2), ← parts_len h2]
    rfl
  · simp [den_fail] at h
abbrev wdG : List (Nat × Rx.Spec) := [(36, sp2)]
theorem wdG_ok : GammaOK P wdG := .cons sp2_ok (.nil P)
/-- The words of the k-th line. -/
def wdB (L : List ByteArray) (n : Nat) (k : Int) : List ByteArray := bif decide (k ≥ (n : Int)) then [] else parts (L.getD k.toNat .empty) ⟨#[32]⟩
def wdS : Rx.Spec := fun a b => match a, b with
  | [.ptr 0 0 0 0], [.cells [.sl 1 0 0 1 n none, .int .i64 k], .rows [.str] rs] => .need (decide (0 ≤ k) && decide (n ≤ rs.length) && (decide (k ≥ (n : Int)) || decide (((txs rs).getD k.toNat .empty).size < 4294967281))) (.leaf ⟨.sl 2 0 0 1 (wdB (txs rs) n k).length none, [none, none], [.rows [.str] (strs (wdB (txs rs) n k))]⟩)
  | _, _ => .fail
theorem wd_ok : SpecOK P 51 wdS := by
  refine specOK_fast wdG_ok hm (Λ := loopsOf []) Tryd.func51 (by kernel_rfl) (LoopsOK.nil (by kernel_rfl)) ?_
  intro args bs r h
  unfold wdS at h
  split at h
  · rename_i n k rs
    rw [den_need, denLf] at h
    simp only [Bool.and_eq_true, Bool.or_eq_true, decide_eq_true_eq] at h
    obtain ⟨⟨⟨h0, hn⟩, h1⟩, h⟩ := h
    cases h
    rw [show (fFn P (specsOf wdG) (loopsOf []) Tryd.f51 [.ptr 0 0 0 0] [.cells [.sl 1 0 0 1 n none, .int .i64 k], .rows [.str] rs]).denN = Tree.denN (Tree.ite (decide (k ≥ (↑n : Int))) (Tree.leaf { v := V.sl 2 0 0 1 0 none, upd := [none, none], new := [Body.rows [K.str] []] }) (Tree.ite (decide (0 ≤ k) && decide (k < (↑n : Int))) (Tree.ite (decide (0 + k.toNat < rs.length)) (Tree.ite (decide ((V.toStr ((rs.getD (0 + k.toNat) []).getD 0 V.any)).size < 4294967281) && true) (Tree.leaf { v := V.sl 2 0 0 1 (parts (V.toStr ((rs.getD (0 + k.toNat) []).getD 0 V.any)) ({ data := #[OfNat.ofNat 32] } : ByteArray)).length none, upd := [none, none], new := [Body.rows [K.str] (strs (parts (V.toStr ((rs.getD (0 + k.toNat) []).getD 0 V.any)) ({ data := #[OfNat.ofNat 32] } : ByteArray)))] }) Tree.fail) Tree.fail) Tree.fail)) from by kernel_rfl]
    have hln : ((rs.getD (0 + k.toNat) []).getD 0 V.any).toStr = (txs rs).getD k.toNat .empty := by
      rw [Nat.zero_add]
      unfold txs
      simp only [List.getD_eq_getElem?_getD, List.getElem?_map]
      cases hh : rs[k.toNat]? with
      | none => rfl
      | some r => rfl
    rw [hln]
    by_cases hk : k ≥ (n : Int)
    · rw [decide_eq_true hk, show wdB (txs rs) n k = [] by unfold wdB; rw [decide_eq_true hk]; rfl]
      rfl
    · rw [show wdB (txs rs) n k = parts ((txs rs).getD k.toNat .empty) ⟨#[32]⟩ by unfold wdB; rw [decide_eq_false hk]; rfl]
      have h1' : ((txs rs).getD k.toNat .empty).size < 4294967281 := by
        rcases h1 with h1 | h1
        · exact absurd h1 hk
        · exact h1
      rw [decide_eq_false hk, decide_eq_true h0, decide_eq_true (show k < (n : Int) by omega), decide_eq_true (show 0 + k.toNat < rs.length by omega), decide_eq_true h1']
      rfl
  · simp [den_fail] at h
end Go.Proofs.YtkgbphheppfnaaaDoor

set_option maxRecDepth 100000
set_option linter.unusedSimpArgs false
set_option linter.unusedVariables false
namespace Go.Proofs.YtkgbphheppfnaaaDoor
open Go.Rx
abbrev tkG : List (Nat × Rx.Spec) := [(51, wdS), (52, nuS)]
theorem tkG_ok : GammaOK P tkG := .cons wd_ok (.cons nu_ok (.nil P))
noncomputable abbrev tkL (m : Nat) : LSpec := fUnroll P (specsOf tkG) (loopsOf []) Tryd.f45 (loopAt Tryd.f45 0) m
theorem tk_loop (m : Nat) : LoopOK P (loopAt Tryd.f45 0) (tkL m) := fUnroll_ok tkG_ok hm (Λ := loopsOf []) (LoopsOK.nil (by kernel_rfl)) _ _
/-- Is the k-th line this word and so many numbers? And the numbers. -/
def tkB (L : List ByteArray) (n : Nat) (k : Int) (w : ByteArray) (m : Nat) : Bool := decide ((wdB L n k).length = m + 1) && (sEq ((wdB L n k).getD 0 .empty) w && (List.range m).all fun i => nuB ((wdB L n k).getD (i + 1) .empty))
def tkV (L : List ByteArray) (n : Nat) (k : Int) (i : Nat) : Int := atoV ((wdB L n k).getD (i + 1) .empty)
/-- Lines that are not too long, and not too many. -/
def gdL (L : List ByteArray) (n : Nat) (k : Int) : Bool := decide (0 ≤ k) && decide (n ≤ L.length) && decide (n ≤ 1000000) && L.all fun p => decide (p.size < 4294967281)
theorem txs_len (rs : List (List V)) : (txs rs).length = rs.length := by simp [txs]
theorem strs_len (l : List ByteArray) : (strs l).length = l.length := by simp [strs]
theorem strs_at (l : List ByteArray) (i : Nat) : V.toStr (((strs l).getD i []).getD 0 V.any) = l.getD i .empty := by
  simp only [strs, List.getD_eq_getElem?_getD, List.getElem?_map]
  cases l[i]? with
  | none => rfl
  | some r => rfl
theorem extract_size_le (s : ByteArray) (a b : Nat) : (s.extract a b).size ≤ s.size := by
  rw [ByteArray.size_extract]; omega
theorem splitB_size (sep : ByteArray) : ∀ (k : Nat) (s p : ByteArray), p ∈ Lib.splitB sep 0 k s → p.size ≤ s.size
  | 0, s, p, h => by
    rw [Lib.splitB_zero, List.mem_singleton] at h; rw [h]; exact Nat.le_refl _
  | k + 1, s, p, h => by
    unfold Lib.splitB at h
    split at h
    · rw [List.mem_singleton] at h; rw [h]; exact Nat.le_refl _
    · rcases List.mem_cons.1 h with rfl | h
      · exact extract_size_le _ _ _
      · exact Nat.le_trans (splitB_size sep k _ p h) (extract_size_le _ _ _)
theorem getD_all {L : List ByteArray} {q : Nat} (hq : 0 < q) (h : (L.all fun p => decide (p.size < q)) = true) (i : Nat) : (L.getD i .empty).size < q := by
  rw [List.all_eq_true] at h
  rw [List.getD_eq_getElem?_getD]
  cases hh : L[i]? with
  | none => exact hq
  | some p => simpa using h p (List.mem_of_getElem? hh)
theorem wd_size {L : List ByteArray} {n : Nat} {k : Int} (h : (L.all fun p => decide (p.size < 4294967281)) = true) (i : Nat) : ((wdB L n k).getD i .empty).size ≤ 281474976710656 := by
  rw [List.getD_eq_getElem?_getD]
  cases hh : (wdB L n k)[i]? with
  | none => exact Nat.zero_le _
  | some p =>
    have hm := List.mem_of_getElem? hh
    unfold wdB at hm
    cases hk : decide (k ≥ (n : Int)) with
    | true => rw [hk] at hm; cases hm
    | false =>
      rw [hk] at hm
      have := splitB_size _ _ _ _ hm
      have := getD_all (by decide) h k.toNat
      show p.size ≤ _
      omega
theorem wd_lt {L : List ByteArray} {n : Nat} {k : Int} {m : Nat} (h : (wdB L n k).length = m + 1) : k < n := by
  unfold wdB at h
  by_cases hk : k ≥ (n : Int)
  · rw [decide_eq_true hk] at h; cases h
  · omega

theorem tk_c8 (n : Nat) (k : Int) (w : ByteArray) (rs : List (List V)) (c : Cfh) (hg : gdL (txs rs) n k = true) : ∃ u, (fFn P (specsOf tkG) (loopsOf [(5, tkL 2)]) Tryd.f45 [.ptr 0 0 0 0, .str w, .sl 1 0 0 1 1 (some 1)] [.cells [.sl 2 0 0 1 n none, .int .i64 k], .cells [.ptr 3 0 0 8], .rows [.str] rs, .cells (cfV c .nils)]).denN = some (Res.nrm ⟨V.bool (tkB (txs rs) n k w 1), u, []⟩) ∧ gu u (bif tkB (txs rs) n k w 1 then [some (some (.cells [.sl 2 0 0 1 n none, .int .i64 (k + 1)])), none, none, some (some (.cells (cfV ⟨c.id, tkV (txs rs) n k 0, c.p1, c.p2, ⟨c.q.cl, c.q.ac, c.q.va⟩, c.ppb, c.sl⟩ .nils)))] else [none, none, none, some none]) := by
  simp only [gdL, Bool.and_eq_true, decide_eq_true_eq] at hg
  obtain ⟨⟨⟨h0, hn⟩, hN⟩, hz⟩ := hg
  rw [txs_len] at hn
  rw [show (fFn P (specsOf tkG) (loopsOf [(5, tkL 2)]) Tryd.f45 [.ptr 0 0 0 0, .str w, .sl 1 0 0 1 1 (some 1)] [.cells [.sl 2 0 0 1 n none, .int .i64 k], .cells [.ptr 3 0 0 8], .rows [.str] rs, .cells (cfV c .nils)]).denN = Tree.denN (Tree.ite (decide (0 ≤ k) && decide (n ≤ rs.length) && (decide (k ≥ (↑n : Int)) || decide (((txs rs).getD k.toNat ByteArray.empty).size < 4294967281))) (Tree.ite ((↑(wdB (txs rs) n k).length : Int) != 2) (Tree.leaf { v := V.fls, upd := [none, none, none, none], new := [] }) (Tree.ite (true && decide (0 < (↑(wdB (txs rs) n k).length : Int))) (Tree.ite (decide (0 < (strs (wdB (txs rs) n k)).length)) (Tree.ite (!sEq (V.toStr (((strs (wdB (txs rs) n k)).getD 0 []).getD 0 V.any)) w) (Tree.leaf { v := V.fls, upd := [none, none, none, none], new := [] }) (Tree.ite (true && decide (1 < (↑(wdB (txs rs) n k).length : Int))) (Tree.ite (decide (1 < (strs (wdB (txs rs) n k)).length)) (Tree.ite (decide ((V.toStr (((strs (wdB (txs rs) n k)).getD 1 []).getD 0 V.any)).size ≤ 281474976710656)) (Tree.ite (!nuB (V.toStr (((strs (wdB (txs rs) n k)).getD 1 []).getD 0 V.any))) (Tree.leaf { v := V.fls, upd := [none, none, none, none], new := [] }) (Tree.leaf { v := V.tru, upd := [some (some (Body.cells [V.sl 2 0 0 1 n none, V.int IntKind.i64 (IntKind.i64.wrap (k + 1))])), none, none, some (some (Body.cells [V.int IntKind.u8 c.id.1, V.int IntKind.u8 c.id.2, V.int IntKind.u8 c.id.3, V.int IntKind.u8 c.id.4, V.int IntKind.u8 c.id.5, V.int IntKind.u8 c.id.6, V.int IntKind.u8 c.id.7, V.int IntKind.u8 c.id.8, V.int IntKind.i64 (atoV (V.toStr (((strs (wdB (txs rs) n k)).getD 1 []).getD 0 V.any))), V.int IntKind.i64 c.3, V.int IntKind.i64 c.4, V.int IntKind.i64 c.q.1, V.int IntKind.i64 c.q.2, V.int IntKind.i64 c.q.3, V.int IntKind.i64 c.6, V.bool c.7, V.nils]))], new := [] })) Tree.fail) Tree.fail) Tree.fail)) Tree.fail) Tree.fail)) Tree.fail) from by kernel_rfl]
  have hc : (decide (0 ≤ k) && decide (n ≤ rs.length) && (decide (k ≥ (n : Int)) || decide (((txs rs).getD k.toNat ByteArray.empty).size < 4294967281))) = true := by
    rw [decide_eq_true h0, decide_eq_true hn, decide_eq_true (getD_all (by decide) hz k.toNat), Bool.or_true]; rfl
  rw [hc]
  simp only [strs_len, strs_at, decide_eq_true (wd_size hz _)]
  have hW := @wd_lt (txs rs) n k 1
  generalize hT : tkB (txs rs) n k w 1 = T
  simp only [tkB, tkV] at hT ⊢
  generalize wdB (txs rs) n k = W at hT hW ⊢
  by_cases hl : W.length = 2
  · have hk := hW hl
    have hw : IntKind.i64.wrap (k + 1) = k + 1 := wrap64_id (by omega) (by omega)
    rw [hl, decide_eq_true rfl, Bool.true_and] at hT
    rw [hl, hw]
    cases h1 : sEq (W.getD 0 .empty) w with
    | false =>
      rw [h1, Bool.false_and] at hT; subst hT
      exact ⟨_, rfl, .inl rfl, .inl rfl, .inl rfl, .inr rfl, trivial⟩
    | true =>
      rw [h1, Bool.true_and] at hT
      rw [show ((List.range 1).all fun i => nuB (W.getD (i + 1) .empty)) = (nuB (W.getD 1 .empty) && true) from rfl] at hT
      cases g0 : nuB (W.getD 1 .empty) with
      | false =>
        rw [g0, Bool.false_and] at hT; subst hT
        exact ⟨_, rfl, .inl rfl, .inl rfl, .inl rfl, .inr rfl, trivial⟩
      | true =>
        rw [g0, Bool.true_and] at hT
        subst hT
        exact ⟨_, rfl, .inl rfl, .inl rfl, .inl rfl, .inl rfl, trivial⟩
  · rw [show ((W.length : Int) != 2) = true by simp only [bne_iff_ne, ne_eq]; omega]
    rw [decide_eq_false hl, Bool.false_and] at hT; subst hT
    exact ⟨_, rfl, .inl rfl, .inl rfl, .inl rfl, .inr rfl, trivial⟩
theorem tk_c11 (n : Nat) (k : Int) (w : ByteArray) (rs : List (List V)) (c : Cfh) (hg : gdL (txs rs) n k = true) : ∃ u, (fFn P (specsOf tkG) (loopsOf [(5, tkL 2)]) Tryd.f45 [.ptr 0 0 0 0, .str w, .sl 1 0 0 1 1 (some 1)] [.cells [.sl 2 0 0 1 n none, .int .i64 k], .cells [.ptr 3 0 0 11], .rows [.str] rs, .cells (cfV c .nils)]).denN = some (Res.nrm ⟨V.bool (tkB (txs rs) n k w 1), u, []⟩) ∧ gu u (bif tkB (txs rs) n k w 1 then [some (some (.cells [.sl 2 0 0 1 n none, .int .i64 (k + 1)])), none, none, some (some (.cells (cfV ⟨c.id, c.dom, c.p1, c.p2, ⟨tkV (txs rs) n k 0, c.q.ac, c.q.va⟩, c.ppb, c.sl⟩ .nils)))] else [none, none, none, some none]) := by
  simp only [gdL, Bool.and_eq_true, decide_eq_true_eq] at hg
  obtain ⟨⟨⟨h0, hn⟩, hN⟩, hz⟩ := hg
  rw [txs_len] at hn
  rw [show (fFn P (specsOf tkG) (loopsOf [(5, tkL 2)]) Tryd.f45 [.ptr 0 0 0 0, .str w, .sl 1 0 0 1 1 (some 1)] [.cells [.sl 2 0 0 1 n none, .int .i64 k], .cells [.ptr 3 0 0 11], .rows [.str] rs, .cells (cfV c .nils)]).denN = Tree.denN (Tree.ite (decide (0 ≤ k) && decide (n ≤ rs.length) && (decide (k ≥ (↑n : Int)) || decide (((txs rs).getD k.toNat ByteArray.empty).size < 4294967281))) (Tree.ite ((↑(wdB (txs rs) n k).length : Int) != 2) (Tree.leaf { v := V.fls, upd := [none, none, none, none], new := [] }) (Tree.ite (true && decide (0 < (↑(wdB (txs rs) n k).length : Int))) (Tree.ite (decide (0 < (strs (wdB (txs rs) n k)).length)) (Tree.ite (!sEq (V.toStr (((strs (wdB (txs rs) n k)).getD 0 []).getD 0 V.any)) w) (Tree.leaf { v := V.fls, upd := [none, none, none, none], new := [] }) (Tree.ite (true && decide (1 < (↑(wdB (txs rs) n k).length : Int))) (Tree.ite (decide (1 < (strs (wdB (txs rs) n k)).length)) (Tree.ite (decide ((V.toStr (((strs (wdB (txs rs) n k)).getD 1 []).getD 0 V.any)).size ≤ 281474976710656)) (Tree.ite (!nuB (V.toStr (((strs (wdB (txs rs) n k)).getD 1 []).getD 0 V.any))) (Tree.leaf { v := V.fls, upd := [none, none, none, none], new := [] }) (Tree.leaf { v := V.tru, upd := [some (some (Body.cells [V.sl 2 0 0 1 n none, V.int IntKind.i64 (IntKind.i64.wrap (k + 1))])), none, none, some (some (Body.cells [V.int IntKind.u8 c.id.1, V.int IntKind.u8 c.id.2, V.int IntKind.u8 c.id.3, V.int IntKind.u8 c.id.4, V.int IntKind.u8 c.id.5, V.int IntKind.u8 c.id.6, V.int IntKind.u8 c.id.7, V.int IntKind.u8 c.id.8, V.int IntKind.i64 c.2, V.int IntKind.i64 c.3, V.int IntKind.i64 c.4, V.int IntKind.i64 (atoV (V.toStr (((strs (wdB (txs rs) n k)).getD 1 []).getD 0 V.any))), V.int IntKind.i64 c.q.2, V.int IntKind.i64 c.q.3, V.int IntKind.i64 c.6, V.bool c.7, V.nils]))], new := [] })) Tree.fail) Tree.fail) Tree.fail)) Tree.fail) Tree.fail)) Tree.fail) from by kernel_rfl]
  have hc : (decide (0 ≤ k) && decide (n ≤ rs.length) && (decide (k ≥ (n : Int)) || decide (((txs rs).getD k.toNat ByteArray.empty).size < 4294967281))) = true := by
    rw [decide_eq_true h0, decide_eq_true hn, decide_eq_true (getD_all (by decide) hz k.toNat), Bool.or_true]; rfl
  rw [hc]
  simp only [strs_len, strs_at, decide_eq_true (wd_size hz _)]
  have hW := @wd_lt (txs rs) n k 1
  generalize hT : tkB (txs rs) n k w 1 = T
  simp only [tkB, tkV] at hT ⊢
  generalize wdB (txs rs) n k = W at hT hW ⊢
  by_cases hl : W.length = 2
  · have hk := hW hl
    have hw : IntKind.i64.wrap (k + 1) = k + 1 := wrap64_id (by omega) (by omega)
    rw [hl, decide_eq_true rfl, Bool.true_and] at hT
    rw [hl, hw]
    cases h1 : sEq (W.getD 0 .empty) w with
    | false =>
      rw [h1, Bool.false_and] at hT; subst hT
      exact ⟨_, rfl, .inl rfl, .inl rfl, .inl rfl, .inr rfl, trivial⟩
    | true =>
      rw [h1, Bool.true_and] at hT
      rw [show ((List.range 1).all fun i => nuB (W.getD (i + 1) .empty)) = (nuB (W.getD 1 .empty) && true) from rfl] at hT
      cases g0 : nuB (W.getD 1 .empty) with
      | false =>
        rw [g0, Bool.false_and] at hT; subst hT
        exact ⟨_, rfl, .inl rfl, .inl rfl, .inl rfl, .inr rfl, trivial⟩
      | true =>
        rw [g0, Bool.true_and] at hT
        subst hT
        exact ⟨_, rfl, .inl rfl, .inl rfl, .inl rfl, .inl rfl, trivial⟩
  · rw [show ((W.length : Int) != 2) = true by simp only [bne_iff_ne, ne_eq]; omega]
    rw [decide_eq_false hl, Bool.false_and] at hT; subst hT
    exact ⟨_, rfl, .inl rfl, .inl rfl, .inl rfl, .inr rfl, trivial⟩
theorem tk_c12 (n : Nat) (k : Int) (w : ByteArray) (rs : List (List V)) (c : Cfh) (hg : gdL (txs rs) n k = true) : ∃ u, (fFn P (specsOf tkG) (loopsOf [(5, tkL 2)]) Tryd.f45 [.ptr 0 0 0 0, .str w, .sl 1 0 0 1 1 (some 1)] [.cells [.sl 2 0 0 1 n none, .int .i64 k], .cells [.ptr 3 0 0 12], .rows [.str] rs, .cells (cfV c .nils)]).denN = some (Res.nrm ⟨V.bool (tkB (txs rs) n k w 1), u, []⟩) ∧ gu u (bif tkB (txs rs) n k w 1 then [some (some (.cells [.sl 2 0 0 1 n none, .int .i64 (k + 1)])), none, none, some (some (.cells (cfV ⟨c.id, c.dom, c.p1, c.p2, ⟨c.q.cl, tkV (txs rs) n k 0, c.q.va⟩, c.ppb, c.sl⟩ .nils)))] else [none, none, none, some none]) := by
  simp only [gdL, Bool.and_eq_true, decide_eq_true_eq] at hg
  obtain ⟨⟨⟨h0, hn⟩, hN⟩, hz⟩ := hg
  rw [txs_len] at hn
  rw [show (fFn P (specsOf tkG) (loopsOf [(5, tkL 2)]) Tryd.f45 [.ptr 0 0 0 0, .str w, .sl 1 0 0 1 1 (some 1)] [.cells [.sl 2 0 0 1 n none, .int .i64 k], .cells [.ptr 3 0 0 12], .rows [.str] rs, .cells (cfV c .nils)]).denN = Tree.denN (Tree.ite (decide (0 ≤ k) && decide (n ≤ rs.length) && (decide (k ≥ (↑n : Int)) || decide (((txs rs).getD k.toNat ByteArray.empty).size < 4294967281))) (Tree.ite ((↑(wdB (txs rs) n k).length : Int) != 2) (Tree.leaf { v := V.fls, upd := [none, none, none, none], new := [] }) (Tree.ite (true && decide (0 < (↑(wdB (txs rs) n k).length : Int))) (Tree.ite (decide (0 < (strs (wdB (txs rs) n k)).length)) (Tree.ite (!sEq (V.toStr (((strs (wdB (txs rs) n k)).getD 0 []).getD 0 V.any)) w) (Tree.leaf { v := V.fls, upd := [none, none, none, none], new := [] }) (Tree.ite (true && decide (1 < (↑(wdB (txs rs) n k).length : Int))) (Tree.ite (decide (1 < (strs (wdB (txs rs) n k)).length)) (Tree.ite (decide ((V.toStr (((strs (wdB (txs rs) n k)).getD 1 []).getD 0 V.any)).size ≤ 281474976710656)) (Tree.ite (!nuB (V.toStr (((strs (wdB (txs rs) n k)).getD 1 []).getD 0 V.any))) (Tree.leaf { v := V.fls, upd := [none, none, none, none], new := [] }) (Tree.leaf { v := V.tru, upd := [some (some (Body.cells [V.sl 2 0 0 1 n none, V.int IntKind.i64 (IntKind.i64.wrap (k + 1))])), none, none, some (some (Body.cells [V.int IntKind.u8 c.id.1, V.int IntKind.u8 c.id.2, V.int IntKind.u8 c.id.3, V.int IntKind.u8 c.id.4, V.int IntKind.u8 c.id.5, V.int IntKind.u8 c.id.6, V.int IntKind.u8 c.id.7, V.int IntKind.u8 c.id.8, V.int IntKind.i64 c.2, V.int IntKind.i64 c.3, V.int IntKind.i64 c.4, V.int IntKind.i64 c.q.1, V.int IntKind.i64 (atoV (V.toStr (((strs (wdB (txs rs) n k)).getD 1 []).getD 0 V.any))), V.int IntKind.i64 c.q.3, V.int IntKind.i64 c.6, V.bool c.7, V.nils]))], new := [] })) Tree.fail) Tree.fail) Tree.fail)) Tree.fail) Tree.fail)) Tree.fail) from by kernel_rfl]
  have hc : (decide (0 ≤ k) && decide (n ≤ rs.length) && (decide (k ≥ (n : Int)) || decide (((txs rs).getD k.toNat ByteArray.empty).size < 4294967281))) = true := by
    rw [decide_eq_true h0, decide_eq_true hn, decide_eq_true (getD_all (by decide) hz k.toNat), Bool.or_true]; rfl
  rw [hc]
  simp only [strs_len, strs_at, decide_eq_true (wd_size hz _)]
  have hW := @wd_lt (txs rs) n k 1
  generalize hT : tkB (txs rs) n k w 1 = T
  simp only [tkB, tkV] at hT ⊢
  generalize wdB (txs rs) n k = W at hT hW ⊢
  by_cases hl : W.length = 2
  · have hk := hW hl
    have hw : IntKind.i64.wrap (k + 1) = k + 1 := wrap64_id (by omega) (by omega)
    rw [hl, decide_eq_true rfl, Bool.true_and] at hT
    rw [hl, hw]
    cases h1 : sEq (W.getD 0 .empty) w with
    | false =>
      rw [h1, Bool.false_and] at hT; subst hT
      exact ⟨_, rfl, .inl rfl, .inl rfl, .inl rfl, .inr rfl, trivial⟩
    | true =>
      rw [h1, Bool.true_and] at hT
      rw [show ((List.range 1).all fun i => nuB (W.getD (i + 1) .empty)) = (nuB (W.getD 1 .empty) && true) from rfl] at hT
      cases g0 : nuB (W.getD 1 .empty) with
      | false =>
        rw [g0, Bool.false_and] at hT; subst hT
        exact ⟨_, rfl, .inl rfl, .inl rfl, .inl rfl, .inr rfl, trivial⟩
      | true =>
        rw [g0, Bool.true_and] at hT
        subst hT
        exact ⟨_, rfl, .inl rfl, .inl rfl, .inl rfl, .inl rfl, trivial⟩
  · rw [show ((W.length : Int) != 2) = true by simp only [bne_iff_ne, ne_eq]; omega]
    rw [decide_eq_false hl, Bool.false_and] at hT; subst hT
    exact ⟨_, rfl, .inl rfl, .inl rfl, .inl rfl, .inr rfl, trivial⟩
theorem tk_c13 (n : Nat) (k : Int) (w : ByteArray) (rs : List (List V)) (c : Cfh) (hg : gdL (txs rs) n k = true) : ∃ u, (fFn P (specsOf tkG) (loopsOf [(5, tkL 2)]) Tryd.f45 [.ptr 0 0 0 0, .str w, .sl 1 0 0 1 1 (some 1)] [.cells [.sl 2 0 0 1 n none, .int .i64 k], .cells [.ptr 3 0 0 13], .rows [.str] rs, .cells (cfV c .nils)]).denN = some (Res.nrm ⟨V.bool (tkB (txs rs) n k w 1), u, []⟩) ∧ gu u (bif tkB (txs rs) n k w 1 then [some (some (.cells [.sl 2 0 0 1 n none, .int .i64 (k + 1)])), none, none, some (some (.cells (cfV ⟨c.id, c.dom, c.p1, c.p2, ⟨c.q.cl, c.q.ac, tkV (txs rs) n k 0⟩, c.ppb, c.sl⟩ .nils)))] else [none, none, none, some none]) := by
  simp only [gdL, Bool.and_eq_true, decide_eq_true_eq] at hg
  obtain ⟨⟨⟨h0, hn⟩, hN⟩, hz⟩ := hg
  rw [txs_len] at hn
  rw [show (fFn P (specsOf tkG) (loopsOf [(5, tkL 2)]) Tryd.f45 [.ptr 0 0 0 0, .str w, .sl 1 0 0 1 1 (some 1)] [.cells [.sl 2 0 0 1 n none, .int .i64 k], .cells [.ptr 3 0 0 13], .rows [.str] rs, .cells (cfV c .nils)]).denN = Tree.denN (Tree.ite (decide (0 ≤ k) && decide (n ≤ rs.length) && (decide (k ≥ (↑n : Int)) || decide (((txs rs).getD k.toNat ByteArray.empty).size < 4294967281))) (Tree.ite ((↑(wdB (txs rs) n k).length : Int) != 2) (Tree.leaf { v := V.fls, upd := [none, none, none, none], new := [] }) (Tree.ite (true && decide (0 < (↑(wdB (txs rs) n k).length : Int))) (Tree.ite (decide (0 < (strs (wdB (txs rs) n k)).length)) (Tree.ite (!sEq (V.toStr (((strs (wdB (txs rs) n k)).getD 0 []).getD 0 V.any)) w) (Tree.leaf { v := V.fls, upd := [none, none, none, none], new := [] }) (Tree.ite (true && decide (1 < (↑(wdB (txs rs) n k).length : Int))) (Tree.ite (decide (1 < (strs (wdB (txs rs) n k)).length)) (Tree.ite (decide ((V.toStr (((strs (wdB (txs rs) n k)).getD 1 []).getD 0 V.any)).size ≤ 281474976710656)) (Tree.ite (!nuB (V.toStr (((strs (wdB (txs rs) n k)).getD 1 []).getD 0 V.any))) (Tree.leaf { v := V.fls, upd := [none, none, none, none], new := [] }) (Tree.leaf { v := V.tru, upd := [some (some (Body.cells [V.sl 2 0 0 1 n none, V.int IntKind.i64 (IntKind.i64.wrap (k + 1))])), none, none, some (some (Body.cells [V.int IntKind.u8 c.id.1, V.int IntKind.u8 c.id.2, V.int IntKind.u8 c.id.3, V.int IntKind.u8 c.id.4, V.int IntKind.u8 c.id.5, V.int IntKind.u8 c.id.6, V.int IntKind.u8 c.id.7, V.int IntKind.u8 c.id.8, V.int IntKind.i64 c.2, V.int IntKind.i64 c.3, V.int IntKind.i64 c.4, V.int IntKind.i64 c.q.1, V.int IntKind.i64 c.q.2, V.int IntKind.i64 (atoV (V.toStr (((strs (wdB (txs rs) n k)).getD 1 []).getD 0 V.any))), V.int IntKind.i64 c.6, V.bool c.7, V.nils]))], new := [] })) Tree.fail) Tree.fail) Tree.fail)) Tree.fail) Tree.fail)) Tree.fail) from by kernel_rfl]
  have hc : (decide (0 ≤ k) && decide (n ≤ rs.length) && (decide (k ≥ (n : Int)) || decide (((txs rs).getD k.toNat ByteArray.empty).size < 4294967281))) = true := by
    rw [decide_eq_true h0, decide_eq_true hn, decide_eq_true (getD_all (by decide) hz k.toNat), Bool.or_true]; rfl
  rw [hc]
  simp only [strs_len, strs_at, decide_eq_true (wd_size hz _)]
  have hW := @wd_lt (txs rs) n k 1
  generalize hT : tkB (txs rs) n k w 1 = T
  simp only [tkB, tkV] at hT ⊢
  generalize wdB (txs rs) n k = W at hT hW ⊢
  by_cases hl : W.length = 2
  · have hk := hW hl
    have hw : IntKind.i64.wrap (k + 1) = k + 1 := wrap64_id (by omega) (by omega)
    rw [hl, decide_eq_true rfl, Bool.true_and] at hT
    rw [hl, hw]
    cases h1 : sEq (W.getD 0 .empty) w with
    | false =>
      rw [h1, Bool.false_and] at hT; subst hT
      exact ⟨_, rfl, .inl rfl, .inl rfl, .inl rfl, .inr rfl, trivial⟩
    | true =>
      rw [h1, Bool.true_and] at hT
      rw [show ((List.range 1).all fun i => nuB (W.getD (i + 1) .empty)) = (nuB (W.getD 1 .empty) && true) from rfl] at hT
      cases g0 : nuB (W.getD 1 .empty) with
      | false =>
        rw [g0, Bool.false_and] at hT; subst hT
        exact ⟨_, rfl, .inl rfl, .inl rfl, .inl rfl, .inr rfl, trivial⟩
      | true =>
        rw [g0, Bool.true_and] at hT
        subst hT
        exact ⟨_, rfl, .inl rfl, .inl rfl, .inl rfl, .inl rfl, trivial⟩
  · rw [show ((W.length : Int) != 2) = true by simp only [bne_iff_ne, ne_eq]; omega]
    rw [decide_eq_false hl, Bool.false_and] at hT; subst hT
    exact ⟨_, rfl, .inl rfl, .inl rfl, .inl rfl, .inr rfl, trivial⟩
theorem tk_c14 (n : Nat) (k : Int) (w : ByteArray) (rs : List (List V)) (c : Cfh) (hg : gdL (txs rs) n k = true) : ∃ u, (fFn P (specsOf tkG) (loopsOf [(5, tkL 2)]) Tryd.f45 [.ptr 0 0 0 0, .str w, .sl 1 0 0 1 1 (some 1)] [.cells [.sl 2 0 0 1 n none, .int .i64 k], .cells [.ptr 3 0 0 14], .rows [.str] rs, .cells (cfV c .nils)]).denN = some (Res.nrm ⟨V.bool (tkB (txs rs) n k w 1), u, []⟩) ∧ gu u (bif tkB (txs rs) n k w 1 then [some (some (.cells [.sl 2 0 0 1 n none, .int .i64 (k + 1)])), none, none, some (some (.cells (cfV ⟨c.id, c.dom, c.p1, c.p2, ⟨c.q.cl, c.q.ac, c.q.va⟩, tkV (txs rs) n k 0, c.sl⟩ .nils)))] else [none, none, none, some none]) := by
  simp only [gdL, Bool.and_eq_true, decide_eq_true_eq] at hg
  obtain ⟨⟨⟨h0, hn⟩, hN⟩, hz⟩ := hg
  rw [txs_len] at hn
  rw [show (fFn P (specsOf tkG) (loopsOf [(5, tkL 2)]) Tryd.f45 [.ptr 0 0 0 0, .str w, .sl 1 0 0 1 1 (some 1)] [.cells [.sl 2 0 0 1 n none, .int .i64 k], .cells [.ptr 3 0 0 14], .rows [.str] rs, .cells (cfV c .nils)]).denN = Tree.denN (Tree.ite (decide (0 ≤ k) && decide (n ≤ rs.length) && (decide (k ≥ (↑n : Int)) || decide (((txs rs).getD k.toNat ByteArray.empty).size < 4294967281))) (Tree.ite ((↑(wdB (txs rs) n k).length : Int) != 2) (Tree.leaf { v := V.fls, upd := [none, none, none, none], new := [] }) (Tree.ite (true && decide (0 < (↑(wdB (txs rs) n k).length : Int))) (Tree.ite (decide (0 < (strs (wdB (txs rs) n k)).length)) (Tree.ite (!sEq (V.toStr (((strs (wdB (txs rs) n k)).getD 0 []).getD 0 V.any)) w) (Tree.leaf { v := V.fls, upd := [none, none, none, none], new := [] }) (Tree.ite (true && decide (1 < (↑(wdB (txs rs) n k).length : Int))) (Tree.ite (decide (1 < (strs (wdB (txs rs) n k)).length)) (Tree.ite (decide ((V.toStr (((strs (wdB (txs rs) n k)).getD 1 []).getD 0 V.any)).size ≤ 281474976710656)) (Tree.ite (!nuB (V.toStr (((strs (wdB (txs rs) n k)).getD 1 []).getD 0 V.any))) (Tree.leaf { v := V.fls, upd := [none, none, none, none], new := [] }) (Tree.leaf { v := V.tru, upd := [some (some (Body.cells [V.sl 2 0 0 1 n none, V.int IntKind.i64 (IntKind.i64.wrap (k + 1))])), none, none, some (some (Body.cells [V.int IntKind.u8 c.id.1, V.int IntKind.u8 c.id.2, V.int IntKind.u8 c.id.3, V.int IntKind.u8 c.id.4, V.int IntKind.u8 c.id.5, V.int IntKind.u8 c.id.6, V.int IntKind.u8 c.id.7, V.int IntKind.u8 c.id.8, V.int IntKind.i64 c.2, V.int IntKind.i64 c.3, V.int IntKind.i64 c.4, V.int IntKind.i64 c.q.1, V.int IntKind.i64 c.q.2, V.int IntKind.i64 c.q.3, V.int IntKind.i64 (atoV (V.toStr (((strs (wdB (txs rs) n k)).getD 1 []).getD 0 V.any))), V.bool c.7, V.nils]))], new := [] })) Tree.fail) Tree.fail) Tree.fail)) Tree.fail) Tree.fail)) Tree.fail) from by kernel_rfl]
  have hc : (decide (0 ≤ k) && decide (n ≤ rs.length) && (decide (k ≥ (n : Int)) || decide (((txs rs).getD k.toNat ByteArray.empty).size < 4294967281))) = true := by
    rw [decide_eq_true h0, decide_eq_true hn, decide_eq_true (getD_all (by decide) hz k.toNat), Bool.or_true]; rfl
  rw [hc]
  simp only [strs_len, strs_at, decide_eq_true (wd_size hz _)]
  have hW := @wd_lt (txs rs) n k 1
  generalize hT : tkB (txs rs) n k w 1 = T
  simp only [tkB, tkV] at hT ⊢
  generalize wdB (txs rs) n k = W at hT hW ⊢
  by_cases hl : W.length = 2
  · have hk := hW hl
    have hw : IntKind.i64.wrap (k + 1) = k + 1 := wrap64_id (by omega) (by omega)
    rw [hl, decide_eq_true rfl, Bool.true_and] at hT
    rw [hl, hw]
    cases h1 : sEq (W.getD 0 .empty) w with
    | false =>
      rw [h1, Bool.false_and] at hT; subst hT
      exact ⟨_, rfl, .inl rfl, .inl rfl, .inl rfl, .inr rfl, trivial⟩
    | true =>
      rw [h1, Bool.true_and] at hT
      rw [show ((List.range 1).all fun i => nuB (W.getD (i + 1) .empty)) = (nuB (W.getD 1 .empty) && true) from rfl] at hT
      cases g0 : nuB (W.getD 1 .empty) with
      | false =>
        rw [g0, Bool.false_and] at hT; subst hT
        exact ⟨_, rfl, .inl rfl, .inl rfl, .inl rfl, .inr rfl, trivial⟩
      | true =>
        rw [g0, Bool.true_and] at hT
        subst hT
        exact ⟨_, rfl, .inl rfl, .inl rfl, .inl rfl, .inl rfl, trivial⟩
  · rw [show ((W.length : Int) != 2) = true by simp only [bne_iff_ne, ne_eq]; omega]
    rw [decide_eq_false hl, Bool.false_and] at hT; subst hT
    exact ⟨_, rfl, .inl rfl, .inl rfl, .inl rfl, .inr rfl, trivial⟩
theorem tk_c9 (n : Nat) (k : Int) (w : ByteArray) (rs : List (List V)) (c : Cfh) (hg : gdL (txs rs) n k = true) : ∃ u, (fFn P (specsOf tkG) (loopsOf [(5, tkL 3)]) Tryd.f45 [.ptr 0 0 0 0, .str w, .sl 1 0 0 1 2 (some 2)] [.cells [.sl 2 0 0 1 n none, .int .i64 k], .cells [.ptr 3 0 0 9, .ptr 3 0 0 10], .rows [.str] rs, .cells (cfV c .nils)]).denN = some (Res.nrm ⟨V.bool (tkB (txs rs) n k w 2), u, []⟩) ∧ gu u (bif tkB (txs rs) n k w 2 then [some (some (.cells [.sl 2 0 0 1 n none, .int .i64 (k + 1)])), none, none, some (some (.cells (cfV ⟨c.id, c.dom, tkV (txs rs) n k 0, tkV (txs rs) n k 1, ⟨c.q.cl, c.q.ac, c.q.va⟩, c.ppb, c.sl⟩ .nils)))] else [none, none, none, some none]) := by
  simp only [gdL, Bool.and_eq_true, decide_eq_true_eq] at hg
  obtain ⟨⟨⟨h0, hn⟩, hN⟩, hz⟩ := hg
  rw [txs_len] at hn
  rw [show (fFn P (specsOf tkG) (loopsOf [(5, tkL 3)]) Tryd.f45 [.ptr 0 0 0 0, .str w, .sl 1 0 0 1 2 (some 2)] [.cells [.sl 2 0 0 1 n none, .int .i64 k], .cells [.ptr 3 0 0 9, .ptr 3 0 0 10], .rows [.str] rs, .cells (cfV c .nils)]).denN = Tree.denN (Tree.ite (decide (0 ≤ k) && decide (n ≤ rs.length) && (decide (k ≥ (↑n : Int)) || decide (((txs rs).getD k.toNat ByteArray.empty).size < 4294967281))) (Tree.ite ((↑(wdB (txs rs) n k).length : Int) != 3) (Tree.leaf { v := V.fls, upd := [none, none, none, none], new := [] }) (Tree.ite (true && decide (0 < (↑(wdB (txs rs) n k).length : Int))) (Tree.ite (decide (0 < (strs (wdB (txs rs) n k)).length)) (Tree.ite (!sEq (V.toStr (((strs (wdB (txs rs) n k)).getD 0 []).getD 0 V.any)) w) (Tree.leaf { v := V.fls, upd := [none, none, none, none], new := [] }) (Tree.ite (true && decide (1 < (↑(wdB (txs rs) n k).length : Int))) (Tree.ite (decide (1 < (strs (wdB (txs rs) n k)).length)) (Tree.ite (decide ((V.toStr (((strs (wdB (txs rs) n k)).getD 1 []).getD 0 V.any)).size ≤ 281474976710656)) (Tree.ite (!nuB (V.toStr (((strs (wdB (txs rs) n k)).getD 1 []).getD 0 V.any))) (Tree.leaf { v := V.fls, upd := [none, none, none, none], new := [] }) (Tree.ite (true && decide (2 < (↑(wdB (txs rs) n k).length : Int))) (Tree.ite (decide (2 < (strs (wdB (txs rs) n k)).length)) (Tree.ite (decide ((V.toStr (((strs (wdB (txs rs) n k)).getD 2 []).getD 0 V.any)).size ≤ 281474976710656)) (Tree.ite (!nuB (V.toStr (((strs (wdB (txs rs) n k)).getD 2 []).getD 0 V.any))) (Tree.leaf { v := V.fls, upd := [none, none, none, some (some (Body.cells [V.int IntKind.u8 c.id.1, V.int IntKind.u8 c.id.2, V.int IntKind.u8 c.id.3, V.int IntKind.u8 c.id.4, V.int IntKind.u8 c.id.5, V.int IntKind.u8 c.id.6, V.int IntKind.u8 c.id.7, V.int IntKind.u8 c.id.8, V.int IntKind.i64 c.2, V.int IntKind.i64 (atoV (V.toStr (((strs (wdB (txs rs) n k)).getD 1 []).getD 0 V.any))), V.int IntKind.i64 c.4, V.int IntKind.i64 c.q.1, V.int IntKind.i64 c.q.2, V.int IntKind.i64 c.q.3, V.int IntKind.i64 c.6, V.bool c.7, V.nils]))], new := [] }) (Tree.leaf { v := V.tru, upd := [some (some (Body.cells [V.sl 2 0 0 1 n none, V.int IntKind.i64 (IntKind.i64.wrap (k + 1))])), none, none, some (some (Body.cells [V.int IntKind.u8 c.id.1, V.int IntKind.u8 c.id.2, V.int IntKind.u8 c.id.3, V.int IntKind.u8 c.id.4, V.int IntKind.u8 c.id.5, V.int IntKind.u8 c.id.6, V.int IntKind.u8 c.id.7, V.int IntKind.u8 c.id.8, V.int IntKind.i64 c.2, V.int IntKind.i64 (atoV (V.toStr (((strs (wdB (txs rs) n k)).getD 1 []).getD 0 V.any))), V.int IntKind.i64 (atoV (V.toStr (((strs (wdB (txs rs) n k)).getD 2 []).getD 0 V.any))), V.int IntKind.i64 c.q.1, V.int IntKind.i64 c.q.2, V.int IntKind.i64 c.q.3, V.int IntKind.i64 c.6, V.bool c.7, V.nils]))], new := [] })) Tree.fail) Tree.fail) Tree.fail)) Tree.fail) Tree.fail) Tree.fail)) Tree.fail) Tree.fail)) Tree.fail) from by kernel_rfl]
  have hc : (decide (0 ≤ k) && decide (n ≤ rs.length) && (decide (k ≥ (n : Int)) || decide (((txs rs).getD k.toNat ByteArray.empty).size < 4294967281))) = true := by
    rw [decide_eq_true h0, decide_eq_true hn, decide_eq_true (getD_all (by decide) hz k.toNat), Bool.or_true]; rfl
  rw [hc]
  simp only [strs_len, strs_at, decide_eq_true (wd_size hz _)]
  have hW := @wd_lt (txs rs) n k 2
  generalize hT : tkB (txs rs) n k w 2 = T
  simp only [tkB, tkV] at hT ⊢
  generalize wdB (txs rs) n k = W at hT hW ⊢
  by_cases hl : W.length = 3
  · have hk := hW hl
    have hw : IntKind.i64.wrap (k + 1) = k + 1 := wrap64_id (by omega) (by omega)
    rw [hl, decide_eq_true rfl, Bool.true_and] at hT
    rw [hl, hw]
    cases h1 : sEq (W.getD 0 .empty) w with
    | false =>
      rw [h1, Bool.false_and] at hT; subst hT
      exact ⟨_, rfl, .inl rfl, .inl rfl, .inl rfl, .inr rfl, trivial⟩
    | true =>
      rw [h1, Bool.true_and] at hT
      rw [show ((List.range 2).all fun i => nuB (W.getD (i + 1) .empty)) = (nuB (W.getD 1 .empty) && (nuB (W.getD 2 .empty) && true)) from rfl] at hT
      cases g0 : nuB (W.getD 1 .empty) with
      | false =>
        rw [g0, Bool.false_and] at hT; subst hT
        exact ⟨_, rfl, .inl rfl, .inl rfl, .inl rfl, .inr rfl, trivial⟩
      | true =>
        rw [g0, Bool.true_and] at hT
        cases g1 : nuB (W.getD 2 .empty) with
        | false =>
          rw [g1, Bool.false_and] at hT; subst hT
          exact ⟨_, rfl, .inl rfl, .inl rfl, .inl rfl, .inr rfl, trivial⟩
        | true =>
          rw [g1, Bool.true_and] at hT
          subst hT
          exact ⟨_, rfl, .inl rfl, .inl rfl, .inl rfl, .inl rfl, trivial⟩
  · rw [show ((W.length : Int) != 3) = true by simp only [bne_iff_ne, ne_eq]; omega]
    rw [decide_eq_false hl, Bool.false_and] at hT; subst hT
    exact ⟨_, rfl, .inl rfl, .inl rfl, .inl rfl, .inr rfl, trivial⟩
theorem tk_s (n : Nat) (k : Int) (w : ByteArray) (rs : List (List V)) (hg : gdL (txs rs) n k = true) : ∃ u, (fFn P (specsOf tkG) (loopsOf [(5, tkL 1)]) Tryd.f45 [.ptr 0 0 0 0, .str w, .nils] [.cells [.sl 1 0 0 1 n none, .int .i64 k], .rows [.str] rs]).denN = some (Res.nrm ⟨V.bool (tkB (txs rs) n k w 0), u, []⟩) ∧ gu u (bif tkB (txs rs) n k w 0 then [some (some (.cells [.sl 1 0 0 1 n none, .int .i64 (k + 1)])), none] else [none, none]) := by
  simp only [gdL, Bool.and_eq_true, decide_eq_true_eq] at hg
  obtain ⟨⟨⟨h0, hn⟩, hN⟩, hz⟩ := hg
  rw [txs_len] at hn
  rw [show (fFn P (specsOf tkG) (loopsOf [(5, tkL 1)]) Tryd.f45 [.ptr 0 0 0 0, .str w, .nils] [.cells [.sl 1 0 0 1 n none, .int .i64 k], .rows [.str] rs]).denN = Tree.denN (Tree.ite (decide (0 ≤ k) && decide (n ≤ rs.length) && (decide (k ≥ (↑n : Int)) || decide (((txs rs).getD k.toNat ByteArray.empty).size < 4294967281))) (Tree.ite ((↑(wdB (txs rs) n k).length : Int) != 1) (Tree.leaf { v := V.fls, upd := [none, none], new := [] }) (Tree.ite (true && decide (0 < (↑(wdB (txs rs) n k).length : Int))) (Tree.ite (decide (0 < (strs (wdB (txs rs) n k)).length)) (Tree.ite (!sEq (V.toStr (((strs (wdB (txs rs) n k)).getD 0 []).getD 0 V.any)) w) (Tree.leaf { v := V.fls, upd := [none, none], new := [] }) (Tree.leaf { v := V.tru, upd := [some (some (Body.cells [V.sl 1 0 0 1 n none, V.int IntKind.i64 (IntKind.i64.wrap (k + 1))])), none], new := [] })) Tree.fail) Tree.fail)) Tree.fail) from by kernel_rfl]
  have hc : (decide (0 ≤ k) && decide (n ≤ rs.length) && (decide (k ≥ (n : Int)) || decide (((txs rs).getD k.toNat ByteArray.empty).size < 4294967281))) = true := by
    rw [decide_eq_true h0, decide_eq_true hn, decide_eq_true (getD_all (by decide) hz k.toNat), Bool.or_true]; rfl
  rw [hc]
  simp only [strs_len, strs_at, decide_eq_true (wd_size hz _)]
  have hW := @wd_lt (txs rs) n k 0
  generalize hT : tkB (txs rs) n k w 0 = T
  simp only [tkB, tkV] at hT ⊢
  generalize wdB (txs rs) n k = W at hT hW ⊢
  by_cases hl : W.length = 1
  · have hk := hW hl
    have hw : IntKind.i64.wrap (k + 1) = k + 1 := wrap64_id (by omega) (by omega)
    rw [hl, decide_eq_true rfl, Bool.true_and] at hT
    rw [hl, hw]
    cases h1 : sEq (W.getD 0 .empty) w with
    | false =>
      rw [h1, Bool.false_and] at hT; subst hT
      exact ⟨_, rfl, .inl rfl, .inl rfl, trivial⟩
    | true =>
      rw [h1, Bool.true_and] at hT
      subst hT
      exact ⟨_, rfl, .inl rfl, .inl rfl, trivial⟩
  · rw [show ((W.length : Int) != 1) = true by simp only [bne_iff_ne, ne_eq]; omega]
    rw [decide_eq_false hl, Bool.false_and] at hT; subst hT
    exact ⟨_, rfl, .inl rfl, .inl rfl, trivial⟩
theorem tk_p (n : Nat) (k : Int) (w : ByteArray) (rs : List (List V)) (hg : gdL (txs rs) n k = true) : ∃ u, (fFn P (specsOf tkG) (loopsOf [(5, tkL 7)]) Tryd.f45 [.ptr 0 0 0 0, .str w, .sl 1 0 0 1 6 (some 6)] [.cells [.sl 2 0 0 1 n none, .int .i64 k], .cells [.ptr 3 0 0 0, .ptr 3 0 0 1, .ptr 3 0 0 2, .ptr 3 0 0 3, .ptr 3 0 0 4, .ptr 3 0 0 5], .rows [.str] rs, .cells [.int .i64 0, .int .i64 0, .int .i64 0, .int .i64 0, .int .i64 0, .int .i64 0]]).denN = some (Res.nrm ⟨V.bool (tkB (txs rs) n k w 6), u, []⟩) ∧ gu u (bif tkB (txs rs) n k w 6 then [some (some (.cells [.sl 2 0 0 1 n none, .int .i64 (k + 1)])), none, none, some (some (.cells [.int .i64 (tkV (txs rs) n k 0), .int .i64 (tkV (txs rs) n k 1), .int .i64 (tkV (txs rs) n k 2), .int .i64 (tkV (txs rs) n k 3), .int .i64 (tkV (txs rs) n k 4), .int .i64 (tkV (txs rs) n k 5)]))] else [none, none, none, some none]) := by
  simp only [gdL, Bool.and_eq_true, decide_eq_true_eq] at hg
  obtain ⟨⟨⟨h0, hn⟩, hN⟩, hz⟩ := hg
  rw [txs_len] at hn
  rw [show (fFn P (specsOf tkG) (loopsOf [(5, tkL 7)]) Tryd.f45 [.ptr 0 0 0 0, .str w, .sl 1 0 0 1 6 (some 6)] [.cells [.sl 2 0 0 1 n none, .int .i64 k], .cells [.ptr 3 0 0 0, .ptr 3 0 0 1, .ptr 3 0 0 2, .ptr 3 0 0 3, .ptr 3 0 0 4, .ptr 3 0 0 5], .rows [.str] rs, .cells [.int .i64 0, .int .i64 0, .int .i64 0, .int .i64 0, .int .i64 0, .int .i64 0]]).denN = Tree.denN (Tree.ite (decide (0 ≤ k) && decide (n ≤ rs.length) && (decide (k ≥ (↑n : Int)) || decide (((txs rs).getD k.toNat ByteArray.empty).size < 4294967281))) (Tree.ite ((↑(wdB (txs rs) n k).length : Int) != 7) (Tree.leaf { v := V.fls, upd := [none, none, none, none], new := [] }) (Tree.ite (true && decide (0 < (↑(wdB (txs rs) n k).length : Int))) (Tree.ite (decide (0 < (strs (wdB (txs rs) n k)).length)) (Tree.ite (!sEq (V.toStr (((strs (wdB (txs rs) n k)).getD 0 []).getD 0 V.any)) w) (Tree.leaf { v := V.fls, upd := [none, none, none, none], new := [] }) (Tree.ite (true && decide (1 < (↑(wdB (txs rs) n k).length : Int))) (Tree.ite (decide (1 < (strs (wdB (txs rs) n k)).length)) (Tree.ite (decide ((V.toStr (((strs (wdB (txs rs) n k)).getD 1 []).getD 0 V.any)).size ≤ 281474976710656)) (Tree.ite (!nuB (V.toStr (((strs (wdB (txs rs) n k)).getD 1 []).getD 0 V.any))) (Tree.leaf { v := V.fls, upd := [none, none, none, none], new := [] }) (Tree.ite (true && decide (2 < (↑(wdB (txs rs) n k).length : Int))) (Tree.ite (decide (2 < (strs (wdB (txs rs) n k)).length)) (Tree.ite (decide ((V.toStr (((strs (wdB (txs rs) n k)).getD 2 []).getD 0 V.any)).size ≤ 281474976710656)) (Tree.ite (!nuB (V.toStr (((strs (wdB (txs rs) n k)).getD 2 []).getD 0 V.any))) (Tree.leaf { v := V.fls, upd := [none, none, none, some (some (Body.cells [V.int IntKind.i64 (atoV (V.toStr (((strs (wdB (txs rs) n k)).getD 1 []).getD 0 V.any))), V.int IntKind.i64 0, V.int IntKind.i64 0, V.int IntKind.i64 0, V.int IntKind.i64 0, V.int IntKind.i64 0]))], new := [] }) (Tree.ite (true && decide (3 < (↑(wdB (txs rs) n k).length : Int))) (Tree.ite (decide (3 < (strs (wdB (txs rs) n k)).length)) (Tree.ite (decide ((V.toStr (((strs (wdB (txs rs) n k)).getD 3 []).getD 0 V.any)).size ≤ 281474976710656)) (Tree.ite (!nuB (V.toStr (((strs (wdB (txs rs) n k)).getD 3 []).getD 0 V.any))) (Tree.leaf { v := V.fls, upd := [none, none, none, some (some (Body.cells [V.int IntKind.i64 (atoV (V.toStr (((strs (wdB (txs rs) n k)).getD 1 []).getD 0 V.any))), V.int IntKind.i64 (atoV (V.toStr (((strs (wdB (txs rs) n k)).getD 2 []).getD 0 V.any))), V.int IntKind.i64 0, V.int IntKind.i64 0, V.int IntKind.i64 0, V.int IntKind.i64 0]))], new := [] }) (Tree.ite (true && decide (4 < (↑(wdB (txs rs) n k).length : Int))) (Tree.ite (decide (4 < (strs (wdB (txs rs) n k)).length)) (Tree.ite (decide ((V.toStr (((strs (wdB (txs rs) n k)).getD 4 []).getD 0 V.any)).size ≤ 281474976710656)) (Tree.ite (!nuB (V.toStr (((strs (wdB (txs rs) n k)).getD 4 []).getD 0 V.any))) (Tree.leaf { v := V.fls, upd := [none, none, none, some (some (Body.cells [V.int IntKind.i64 (atoV (V.toStr (((strs (wdB (txs rs) n k)).getD 1 []).getD 0 V.any))), V.int IntKind.i64 (atoV (V.toStr (((strs (wdB (txs rs) n k)).getD 2 []).getD 0 V.any))), V.int IntKind.i64 (atoV (V.toStr (((strs (wdB (txs rs) n k)).getD 3 []).getD 0 V.any))), V.int IntKind.i64 0, V.int IntKind.i64 0, V.int IntKind.i64 0]))], new := [] }) (Tree.ite (true && decide (5 < (↑(wdB (txs rs) n k).length : Int))) (Tree.ite (decide (5 < (strs (wdB (txs rs) n k)).length)) (Tree.ite (decide ((V.toStr (((strs (wdB (txs rs) n k)).getD 5 []).getD 0 V.any)).size ≤ 281474976710656)) (Tree.ite (!nuB (V.toStr (((strs (wdB (txs rs) n k)).getD 5 []).getD 0 V.any))) (Tree.leaf { v := V.fls, upd := [none, none, none, some (some (Body.cells [V.int IntKind.i64 (atoV (V.toStr (((strs (wdB (txs rs) n k)).getD 1 []).getD 0 V.any))), V.int IntKind.i64 (atoV (V.toStr (((strs (wdB (txs rs) n k)).getD 2 []).getD 0 V.any))), V.int IntKind.i64 (atoV (V.toStr (((strs (wdB (txs rs) n k)).getD 3 []).getD 0 V.any))), V.int IntKind.i64 (atoV (V.toStr (((strs (wdB (txs rs) n k)).getD 4 []).getD 0 V.any))), V.int IntKind.i64 0, V.int IntKind.i64 0]))], new := [] }) (Tree.ite (true && decide (6 < (↑(wdB (txs rs) n k).length : Int))) (Tree.ite (decide (6 < (strs (wdB (txs rs) n k)).length)) (Tree.ite (decide ((V.toStr (((strs (wdB (txs rs) n k)).getD 6 []).getD 0 V.any)).size ≤ 281474976710656)) (Tree.ite (!nuB (V.toStr (((strs (wdB (txs rs) n k)).getD 6 []).getD 0 V.any))) (Tree.leaf { v := V.fls, upd := [none, none, none, some (some (Body.cells [V.int IntKind.i64 (atoV (V.toStr (((strs (wdB (txs rs) n k)).getD 1 []).getD 0 V.any))), V.int IntKind.i64 (atoV (V.toStr (((strs (wdB (txs rs) n k)).getD 2 []).getD 0 V.any))), V.int IntKind.i64 (atoV (V.toStr (((strs (wdB (txs rs) n k)).getD 3 []).getD 0 V.any))), V.int IntKind.i64 (atoV (V.toStr (((strs (wdB (txs rs) n k)).getD 4 []).getD 0 V.any))), V.int IntKind.i64 (atoV (V.toStr (((strs (wdB (txs rs) n k)).getD 5 []).getD 0 V.any))), V.int IntKind.i64 0]))], new := [] }) (Tree.leaf { v := V.tru, upd := [some (some (Body.cells [V.sl 2 0 0 1 n none, V.int IntKind.i64 (IntKind.i64.wrap (k + 1))])), none, none, some (some (Body.cells [V.int IntKind.i64 (atoV (V.toStr (((strs (wdB (txs rs) n k)).getD 1 []).getD 0 V.any))), V.int IntKind.i64 (atoV (V.toStr (((strs (wdB (txs rs) n k)).getD 2 []).getD 0 V.any))), V.int IntKind.i64 (atoV (V.toStr (((strs (wdB (txs rs) n k)).getD 3 []).getD 0 V.any))), V.int IntKind.i64 (atoV (V.toStr (((strs (wdB (txs rs) n k)).getD 4 []).getD 0 V.any))), V.int IntKind.i64 (atoV (V.toStr (((strs (wdB (txs rs) n k)).getD 5 []).getD 0 V.any))), V.int IntKind.i64 (atoV (V.toStr (((strs (wdB (txs rs) n k)).getD 6 []).getD 0 V.any)))]))], new := [] })) Tree.fail) Tree.fail) Tree.fail)) Tree.fail) Tree.fail) Tree.fail)) Tree.fail) Tree.fail) Tree.fail)) Tree.fail) Tree.fail) Tree.fail)) Tree.fail) Tree.fail) Tree.fail)) Tree.fail) Tree.fail) Tree.fail)) Tree.fail) Tree.fail)) Tree.fail) from by kernel_rfl]
  have hc : (decide (0 ≤ k) && decide (n ≤ rs.length) && (decide (k ≥ (n : Int)) || decide (((txs rs).getD k.toNat ByteArray.empty).size < 4294967281))) = true := by
    rw [decide_eq_true h0, decide_eq_true hn, decide_eq_true (getD_all (by decide) hz k.toNat), Bool.or_true]; rfl
  rw [hc]
  simp only [strs_len, strs_at, decide_eq_true (wd_size hz _)]
  have hW := @wd_lt (txs rs) n k 6
  generalize hT : tkB (txs rs) n k w 6 = T
  simp only [tkB, tkV] at hT ⊢
  generalize wdB (txs rs) n k = W at hT hW ⊢
  by_cases hl : W.length = 7
  · have hk := hW hl
    have hw : IntKind.i64.wrap (k + 1) = k + 1 := wrap64_id (by omega) (by omega)
    rw [hl, decide_eq_true rfl, Bool.true_and] at hT
    rw [hl, hw]
    cases h1 : sEq (W.getD 0 .empty) w with
    | false =>
      rw [h1, Bool.false_and] at hT; subst hT
      exact ⟨_, rfl, .inl rfl, .inl rfl, .inl rfl, .inr rfl, trivial⟩
    | true =>
      rw [h1, Bool.true_and] at hT
      rw [show ((List.range 6).all fun i => nuB (W.getD (i + 1) .empty)) = (nuB (W.getD 1 .empty) && (nuB (W.getD 2 .empty) && (nuB (W.getD 3 .empty) && (nuB (W.getD 4 .empty) && (nuB (W.getD 5 .empty) && (nuB (W.getD 6 .empty) && true)))))) from rfl] at hT
      cases g0 : nuB (W.getD 1 .empty) with
      | false =>
        rw [g0, Bool.false_and] at hT; subst hT
        exact ⟨_, rfl, .inl rfl, .inl rfl, .inl rfl, .inr rfl, trivial⟩
      | true =>
        rw [g0, Bool.true_and] at hT
        cases g1 : nuB (W.getD 2 .empty) with
        | false =>
          rw [g1, Bool.false_and] at hT; subst hT
          exact ⟨_, rfl, .inl rfl, .inl rfl, .inl rfl, .inr rfl, trivial⟩
        | true =>
          rw [g1, Bool.true_and] at hT
          cases g2 : nuB (W.getD 3 .empty) with
          | false =>
            rw [g2, Bool.false_and] at hT; subst hT
            exact ⟨_, rfl, .inl rfl, .inl rfl, .inl rfl, .inr rfl, trivial⟩
          | true =>
            rw [g2, Bool.true_and] at hT
            cases g3 : nuB (W.getD 4 .empty) with
            | false =>
              rw [g3, Bool.false_and] at hT; subst hT
              exact ⟨_, rfl, .inl rfl, .inl rfl, .inl rfl, .inr rfl, trivial⟩
            | true =>
              rw [g3, Bool.true_and] at hT
              cases g4 : nuB (W.getD 5 .empty) with
              | false =>
                rw [g4, Bool.false_and] at hT; subst hT
                exact ⟨_, rfl, .inl rfl, .inl rfl, .inl rfl, .inr rfl, trivial⟩
              | true =>
                rw [g4, Bool.true_and] at hT
                cases g5 : nuB (W.getD 6 .empty) with
                | false =>
                  rw [g5, Bool.false_and] at hT; subst hT
                  exact ⟨_, rfl, .inl rfl, .inl rfl, .inl rfl, .inr rfl, trivial⟩
                | true =>
                  rw [g5, Bool.true_and] at hT
                  subst hT
                  exact ⟨_, rfl, .inl rfl, .inl rfl, .inl rfl, .inl rfl, trivial⟩
  · rw [show ((W.length : Int) != 7) = true by simp only [bne_iff_ne, ne_eq]; omega]
    rw [decide_eq_false hl, Bool.false_and] at hT; subst hT
    exact ⟨_, rfl, .inl rfl, .inl rfl, .inl rfl, .inr rfl, trivial⟩
/-- What 'take' says of a line, and what it lays. -/
def tkT (B : Bool) (k : Int) (n i : Nat) (u : List (Option (Option Blk))) (f : List (Option (Option Blk))) : Tree Res := .ite B (.leaf ⟨.tru, some (some (.cells [.sl i 0 0 1 n none, .int .i64 (k + 1)])) :: u, []⟩) (.leaf ⟨.fls, f, []⟩)
def tkS : Rx.Spec := fun a b => match a, b with
  | [.ptr 0 0 0 0, .str w, .nils], [.cells [.sl 1 0 0 1 n none, .int .i64 k], .rows [.str] rs] => .need (gdL (txs rs) n k) (tkT (tkB (txs rs) n k w 0) k n 1 [none] [none, none])
  | [.ptr 0 0 0 0, .str w, .sl 1 0 0 1 1 (some 1)], [.cells [.sl 2 0 0 1 n none, .int .i64 k], .cells [.ptr 3 0 0 o], .rows [.str] rs, .cells cs] => match Cfh.p cs with
    | some (c, [.nils]) => match o with
      | 8 => .need (gdL (txs rs) n k) (tkT (tkB (txs rs) n k w 1) k n 2 [none, none, some (some (.cells (cfV ⟨c.id, tkV (txs rs) n k 0, c.p1, c.p2, ⟨c.q.cl, c.q.ac, c.q.va⟩, c.ppb, c.sl⟩ .nils)))] [none, none, none, some none])
      | 11 => .need (gdL (txs rs) n k) (tkT (tkB (txs rs) n k w 1) k n 2 [none, none, some (some (.cells (cfV ⟨c.id, c.dom, c.p1, c.p2, ⟨tkV (txs rs) n k 0, c.q.ac, c.q.va⟩, c.ppb, c.sl⟩ .nils)))] [none, none, none, some none])
      | 12 => .need (gdL (txs rs) n k) (tkT (tkB (txs rs) n k w 1) k n 2 [none, none, some (some (.cells (cfV ⟨c.id, c.dom, c.p1, c.p2, ⟨c.q.cl, tkV (txs rs) n k 0, c.q.va⟩, c.ppb, c.sl⟩ .nils)))] [none, none, none, some none])
      | 13 => .need (gdL (txs rs) n k) (tkT (tkB (txs rs) n k w 1) k n 2 [none, none, some (some (.cells (cfV ⟨c.id, c.dom, c.p1, c.p2, ⟨c.q.cl, c.q.ac, tkV (txs rs) n k 0⟩, c.ppb, c.sl⟩ .nils)))] [none, none, none, some none])
      | 14 => .need (gdL (txs rs) n k) (tkT (tkB (txs rs) n k w 1) k n 2 [none, none, some (some (.cells (cfV ⟨c.id, c.dom, c.p1, c.p2, ⟨c.q.cl, c.q.ac, c.q.va⟩, tkV (txs rs) n k 0, c.sl⟩ .nils)))] [none, none, none, some none])
      | _ => .fail
    | _ => .fail
  | [.ptr 0 0 0 0, .str w, .sl 1 0 0 1 2 (some 2)], [.cells [.sl 2 0 0 1 n none, .int .i64 k], .cells [.ptr 3 0 0 9, .ptr 3 0 0 10], .rows [.str] rs, .cells cs] => match Cfh.p cs with
    | some (c, [.nils]) => .need (gdL (txs rs) n k) (tkT (tkB (txs rs) n k w 2) k n 2 [none, none, some (some (.cells (cfV ⟨c.id, c.dom, tkV (txs rs) n k 0, tkV (txs rs) n k 1, ⟨c.q.cl, c.q.ac, c.q.va⟩, c.ppb, c.sl⟩ .nils)))] [none, none, none, some none])
    | _ => .fail
  | [.ptr 0 0 0 0, .str w, .sl 1 0 0 1 6 (some 6)], [.cells [.sl 2 0 0 1 n none, .int .i64 k], .cells [.ptr 3 0 0 0, .ptr 3 0 0 1, .ptr 3 0 0 2, .ptr 3 0 0 3, .ptr 3 0 0 4, .ptr 3 0 0 5], .rows [.str] rs, .cells [.int .i64 0, .int .i64 0, .int .i64 0, .int .i64 0, .int .i64 0, .int .i64 0]] => .need (gdL (txs rs) n k) (tkT (tkB (txs rs) n k w 6) k n 2 [none, none, some (some (.cells [.int .i64 (tkV (txs rs) n k 0), .int .i64 (tkV (txs rs) n k 1), .int .i64 (tkV (txs rs) n k 2), .int .i64 (tkV (txs rs) n k 3), .int .i64 (tkV (txs rs) n k 4), .int .i64 (tkV (txs rs) n k 5)]))] [none, none, none, some none])
  | _, _ => .fail
theorem tkT_den {B : Bool} {k : Int} {n i : Nat} {u f : List (Option (Option Blk))} {r : Res} (h : (tkT B k n i u f).den = some r) : r = ⟨.lit B, bif B then some (some (.cells [.sl i 0 0 1 n none, .int .i64 (k + 1)])) :: u else f, []⟩ := by
  unfold tkT at h
  cases B <;> (rw [denI, denLf, denLf] at h; cases h; rfl)
theorem nrm_lit (B : Bool) (u : List (Option (Option Blk))) (n : List Blk) : Res.nrm ⟨.lit B, u, n⟩ = Res.nrm ⟨.bool B, u, n⟩ := by cases B <;> rfl
noncomputable abbrev tkI (m : Nat) : Rx.Spec := fFn P (specsOf tkG) (loopsOf [(5, tkL (m + 1))]) Tryd.f45
theorem tkI_ok (m : Nat) : SpecOK P 45 (tkI m) := inl_ok tkG_ok hm Tryd.func45 (by kernel_rfl) (LoopsOK.one (by kernel_rfl) (tk_loop (m + 1)))
theorem tk_ok : SpecOK P 45 tkS := by
  refine specGive' (tkI_ok 0) fun args bs r h => ?_
  unfold tkS at h
  split at h
  · rw [den_need] at h
    obtain ⟨hg, h⟩ := h
    rw [tkT_den h]
    obtain ⟨u, h1, h2⟩ := tk_s _ _ _ _ hg
    exact ⟨tkI 0, u, tkI_ok 0, h1.trans (congrArg some (nrm_lit _ _ _).symm), h2⟩
  · split at h
    · rename_i c hc
      rw [Cfh.p_eq hc, cfV_eq]
      split at h
      · rw [den_need] at h
        obtain ⟨hg, h⟩ := h
        rw [tkT_den h]
        obtain ⟨u, h1, h2⟩ := tk_c8 _ _ _ _ _ hg
        exact ⟨tkI 1, u, tkI_ok 1, h1.trans (congrArg some (nrm_lit _ _ _).symm), h2⟩
      · rw [den_need] at h
        obtain ⟨hg, h⟩ := h
        rw [tkT_den h]
        obtain ⟨u, h1, h2⟩ := tk_c11 _ _ _ _ _ hg
        exact ⟨tkI 1, u, tkI_ok 1, h1.trans (congrArg some (nrm_lit _ _ _).symm), h2⟩
      · rw [den_need] at h
        obtain ⟨hg, h⟩ := h
        rw [tkT_den h]
        obtain ⟨u, h1, h2⟩ := tk_c12 _ _ _ _ _ hg
        exact ⟨tkI 1, u, tkI_ok 1, h1.trans (congrArg some (nrm_lit _ _ _).symm), h2⟩
      · rw [den_need] at h
        obtain ⟨hg, h⟩ := h
        rw [tkT_den h]
        obtain ⟨u, h1, h2⟩ := tk_c13 _ _ _ _ _ hg
        exact ⟨tkI 1, u, tkI_ok 1, h1.trans (congrArg some (nrm_lit _ _ _).symm), h2⟩
      · rw [den_need] at h
        obtain ⟨hg, h⟩ := h
        rw [tkT_den h]
        obtain ⟨u, h1, h2⟩ := tk_c14 _ _ _ _ _ hg
        exact ⟨tkI 1, u, tkI_ok 1, h1.trans (congrArg some (nrm_lit _ _ _).symm), h2⟩
      · simp [den_fail] at h
    · simp [den_fail] at h
  · split at h
    · rename_i c hc
      rw [Cfh.p_eq hc, cfV_eq]
      rw [den_need] at h
      obtain ⟨hg, h⟩ := h
      rw [tkT_den h]
      obtain ⟨u, h1, h2⟩ := tk_c9 _ _ _ _ _ hg
      exact ⟨tkI 2, u, tkI_ok 2, h1.trans (congrArg some (nrm_lit _ _ _).symm), h2⟩
    · simp [den_fail] at h
  · rw [den_need] at h
    obtain ⟨hg, h⟩ := h
    rw [tkT_den h]
    obtain ⟨u, h1, h2⟩ := tk_p _ _ _ _ hg
    exact ⟨tkI 6, u, tkI_ok 6, h1.trans (congrArg some (nrm_lit _ _ _).symm), h2⟩
  · simp [den_fail] at h
end Go.Proofs.YtkgbphheppfnaaaDoor

set_option maxRecDepth 100000
set_option linter.unusedSimpArgs false
set_option linter.unusedVariables false
namespace Go.Proofs.YtkgbphheppfnaaaDoor
open Go.Rx
def clkW : ByteArray := ⟨#[99, 108, 111, 99, 107]⟩
def prtW : ByteArray := ⟨#[112, 111, 114, 116]⟩
def slvW : ByteArray := ⟨#[115, 108, 97, 118, 101]⟩
/-- Is the k-th line the clock's? And is its second word one? -/
def klB (L : List ByteArray) (n : Nat) (k : Int) : Bool := decide ((wdB L n k).length = 2) && sEq ((wdB L n k).getD 0 .empty) clkW
def kiB (L : List ByteArray) (n : Nat) (k : Int) : Bool := decide ((((wdB L n k).getD 1 .empty).size : Int) = 16) && rdOK ((wdB L n k).getD 1 .empty)
def kiC (L : List ByteArray) (n : Nat) (k : Int) : Ck := rdC ((wdB L n k).getD 1 .empty)
abbrev klG : List (Nat × Rx.Spec) := [(51, wdS), (53, rdS)]
theorem klG_ok : GammaOK P klG := .cons wd_ok (.cons rd_ok (.nil P))
def klS : Rx.Spec := fun a b => match a, b with
  | [.ptr 0 0 0 0, .ptr 1 0 0 0], [.cells [.sl 2 0 0 1 n none, .int .i64 k], .cells [.int .u8 0, .int .u8 0, .int .u8 0, .int .u8 0, .int .u8 0, .int .u8 0, .int .u8 0, .int .u8 0, .int .i64 0, .int .i64 0, .int .i64 0, .int .i64 0, .int .i64 0, .int .i64 0, .int .i64 0, .fls, .nils], .rows [.str] rs] => .need (gdL (txs rs) n k) (.ite (klB (txs rs) n k)
      (.ite (kiB (txs rs) n k) (.leaf ⟨.tru, [some (some (.cells [.sl 2 0 0 1 n none, .int .i64 (k + 1)])), some (some (.cells (cfV ⟨kiC (txs rs) n k, 0, 0, 0, ⟨0, 0, 0⟩, 0, false⟩ .nils))), none], []⟩)
        (.leaf ⟨.fls, [some (some (.cells [.sl 2 0 0 1 n none, .int .i64 (k + 1)])), some none, none], []⟩))
      (.leaf ⟨.fls, [none, some none, none], []⟩))
  | _, _ => .fail
theorem kl_ok : SpecOK P 46 klS := by
  refine specGive (inl_ok klG_ok hm Tryd.func46 (by kernel_rfl) (Λ := loopsOf []) (LoopsOK.nil (by kernel_rfl))) fun args bs r h => ?_
  unfold klS at h
  split at h
  · rename_i n k rs
    rw [den_need] at h
    obtain ⟨hg, h⟩ := h
    simp only [gdL, Bool.and_eq_true, decide_eq_true_eq] at hg
    obtain ⟨⟨⟨h0, hn⟩, hN⟩, hz⟩ := hg
    rw [txs_len] at hn
    have hc : (decide (0 ≤ k) && decide (n ≤ rs.length) && (decide (k ≥ (n : Int)) || decide (((txs rs).getD k.toNat ByteArray.empty).size < 4294967281))) = true := by
      rw [decide_eq_true h0, decide_eq_true hn, decide_eq_true (getD_all (by decide) hz k.toNat), Bool.or_true]; rfl
    have nf := show (fFn P (specsOf klG) (loopsOf []) Tryd.f46 [.ptr 0 0 0 0, .ptr 1 0 0 0] [.cells [.sl 2 0 0 1 n none, .int .i64 k], .cells zcV, .rows [.str] rs]).denN = Tree.denN (Tree.ite (decide (0 ≤ k) && decide (n ≤ rs.length) && (decide (k ≥ (↑n : Int)) || decide (((txs rs).getD k.toNat ByteArray.empty).size < 4294967281))) (Tree.ite ((↑(wdB (txs rs) n k).length : Int) != 2) (Tree.leaf { v := V.fls, upd := [none, none, none], new := [] }) (Tree.ite (true && decide (0 < (↑(wdB (txs rs) n k).length : Int))) (Tree.ite (decide (0 < (strs (wdB (txs rs) n k)).length)) (Tree.ite (!sEq (V.toStr (((strs (wdB (txs rs) n k)).getD 0 []).getD 0 V.any)) ({ data := #[OfNat.ofNat 99, OfNat.ofNat 108, OfNat.ofNat 111, OfNat.ofNat 99, OfNat.ofNat 107] } : ByteArray)) (Tree.leaf { v := V.fls, upd := [none, none, none], new := [] }) (Tree.ite (true && decide (1 < (↑(wdB (txs rs) n k).length : Int))) (Tree.ite (decide (1 < (strs (wdB (txs rs) n k)).length)) (Tree.ite (decide ((↑(V.toStr (((strs (wdB (txs rs) n k)).getD 1 []).getD 0 V.any)).size : Int) = 16) && rdOK (V.toStr (((strs (wdB (txs rs) n k)).getD 1 []).getD 0 V.any))) (Tree.leaf { v := V.tru, upd := [some (some (Body.cells [V.sl 2 0 0 1 n none, V.int IntKind.i64 (IntKind.i64.wrap (k + 1))])), some (some (Body.cells [V.int IntKind.u8 (hexV (sAt (V.toStr (((strs (wdB (txs rs) n k)).getD 1 []).getD 0 V.any)) 0) * 16 + hexV (sAt (V.toStr (((strs (wdB (txs rs) n k)).getD 1 []).getD 0 V.any)) 1)), V.int IntKind.u8 (hexV (sAt (V.toStr (((strs (wdB (txs rs) n k)).getD 1 []).getD 0 V.any)) 2) * 16 + hexV (sAt (V.toStr (((strs (wdB (txs rs) n k)).getD 1 []).getD 0 V.any)) 3)), V.int IntKind.u8 (hexV (sAt (V.toStr (((strs (wdB (txs rs) n k)).getD 1 []).getD 0 V.any)) 4) * 16 + hexV (sAt (V.toStr (((strs (wdB (txs rs) n k)).getD 1 []).getD 0 V.any)) 5)), V.int IntKind.u8 (hexV (sAt (V.toStr (((strs (wdB (txs rs) n k)).getD 1 []).getD 0 V.any)) 6) * 16 + hexV (sAt (V.toStr (((strs (wdB (txs rs) n k)).getD 1 []).getD 0 V.any)) 7)), V.int IntKind.u8 (hexV (sAt (V.toStr (((strs (wdB (txs rs) n k)).getD 1 []).getD 0 V.any)) 8) * 16 + hexV (sAt (V.toStr (((strs (wdB (txs rs) n k)).getD 1 []).getD 0 V.any)) 9)), V.int IntKind.u8 (hexV (sAt (V.toStr (((strs (wdB (txs rs) n k)).getD 1 []).getD 0 V.any)) 10) * 16 + hexV (sAt (V.toStr (((strs (wdB (txs rs) n k)).getD 1 []).getD 0 V.any)) 11)), V.int IntKind.u8 (hexV (sAt (V.toStr (((strs (wdB (txs rs) n k)).getD 1 []).getD 0 V.any)) 12) * 16 + hexV (sAt (V.toStr (((strs (wdB (txs rs) n k)).getD 1 []).getD 0 V.any)) 13)), V.int IntKind.u8 (hexV (sAt (V.toStr (((strs (wdB (txs rs) n k)).getD 1 []).getD 0 V.any)) 14) * 16 + hexV (sAt (V.toStr (((strs (wdB (txs rs) n k)).getD 1 []).getD 0 V.any)) 15)), V.int IntKind.i64 0, V.int IntKind.i64 0, V.int IntKind.i64 0, V.int IntKind.i64 0, V.int IntKind.i64 0, V.int IntKind.i64 0, V.int IntKind.i64 0, V.fls, V.nils])), none], new := [] }) (Tree.leaf { v := V.fls, upd := [some (some (Body.cells [V.sl 2 0 0 1 n none, V.int IntKind.i64 (IntKind.i64.wrap (k + 1))])), some (some (Body.cells [V.int IntKind.u8 0, V.int IntKind.u8 0, V.int IntKind.u8 0, V.int IntKind.u8 0, V.int IntKind.u8 0, V.int IntKind.u8 0, V.int IntKind.u8 0, V.int IntKind.u8 0, V.int IntKind.i64 0, V.int IntKind.i64 0, V.int IntKind.i64 0, V.int IntKind.i64 0, V.int IntKind.i64 0, V.int IntKind.i64 0, V.int IntKind.i64 0, V.fls, V.nils])), none], new := [] })) Tree.fail) Tree.fail)) Tree.fail) Tree.fail)) Tree.fail) from by kernel_rfl
    rw [hc] at nf
    simp only [strs_len, strs_at] at nf
    have hW := @wd_lt (txs rs) n k 1
    simp only [klB, kiB, kiC] at h
    generalize wdB (txs rs) n k = W at h hW nf
    by_cases hl : W.length = 2
    · have hk := hW hl
      have hw : IntKind.i64.wrap (k + 1) = k + 1 := wrap64_id (by omega) (by omega)
      rw [hl, decide_eq_true rfl, Bool.true_and] at h
      rw [hl, hw] at nf
      have ew : clkW = ({ data := #[OfNat.ofNat 99, OfNat.ofNat 108, OfNat.ofNat 111, OfNat.ofNat 99, OfNat.ofNat 107] } : ByteArray) := rfl
      rw [ew] at h
      cases h1 : sEq (W.getD 0 .empty) ({ data := #[OfNat.ofNat 99, OfNat.ofNat 108, OfNat.ofNat 111, OfNat.ofNat 99, OfNat.ofNat 107] } : ByteArray) with
      | false =>
        rw [h1, denI, denLf] at h; cases h
        rw [h1] at nf
        exact ⟨_, nf.trans rfl, .inl rfl, .inr rfl, .inl rfl, trivial⟩
      | true =>
        rw [h1, denI, denI, denLf, denLf] at h
        rw [h1] at nf
        cases h2 : (decide (((W.getD 1 .empty).size : Int) = 16) && rdOK (W.getD 1 .empty)) with
        | false =>
          rw [h2] at h nf; cases h
          exact ⟨_, nf.trans rfl, .inl rfl, .inr rfl, .inl rfl, trivial⟩
        | true =>
          rw [h2] at h nf; cases h
          exact ⟨[some (some (.cells [.sl 2 0 0 1 n none, .int .i64 (k + 1)])), some (some (.cells (cfV ⟨rdC (W.getD 1 .empty), 0, 0, 0, ⟨0, 0, 0⟩, 0, false⟩ .nils))), none], nf.trans rfl, .inl rfl, .inl rfl, .inl rfl, trivial⟩
    · rw [decide_eq_false hl, Bool.false_and, denI, denLf] at h; cases h
      rw [show ((W.length : Int) != 2) = true by simp only [bne_iff_ne, ne_eq]; omega] at nf
      exact ⟨_, nf.trans rfl, .inl rfl, .inr rfl, .inl rfl, trivial⟩
  · simp [den_fail] at h
/-- The ports of the lines from the k-th on. -/
def pkB (L : List ByteArray) (n : Nat) (k : Int) : Bool := tkB L n k prtW 6
def pkV (L : List ByteArray) (n : Nat) (k : Int) : Pot := ⟨tkV L n k 0, tkV L n k 1, tkV L n k 2, ⟨tkV L n k 3, tkV L n k 4, tkV L n k 5⟩⟩
def poQ (L : List ByteArray) (n : Nat) : Nat → Int → List Pot
  | 0, _ => []
  | f + 1, k => bif pkB L n k then pkV L n k :: poQ L n f (k + 1) else []
theorem pk_lt {L : List ByteArray} {n : Nat} {k : Int} (h : pkB L n k = true) : k < n := by
  unfold pkB tkB at h
  simp only [Bool.and_eq_true, decide_eq_true_eq] at h
  exact wd_lt h.1
noncomputable abbrev alG : List (Nat × Rx.Spec) := [(45, Rx.Spec.N tkS), (46, klS)]
theorem alG_ok : GammaOK P alG := .cons tk_ok.N (.cons kl_ok (.nil P))
theorem alN_round (n : Nat) (k : Int) (rs : List (List V)) (c : Cfh) : (evRound P (specsOf alG) (loopsOf []) 121 [0, 1, 5] [4] (loopAt Tryd.f37 0) [.ptr 0 0 0 0, .ptr 1 0 0 0, .fn (.func 45) [.ptr 0 0 0 0] []] [.cells [.sl 2 0 0 1 n none, .int .i64 k], .cells (cfV c .nils), .rows [.str] rs]).den = Tree.den (Tree.ite (gdL (txs rs) n k) (Tree.ite (tkB (txs rs) n k { data := #[OfNat.ofNat 112, OfNat.ofNat 111, OfNat.ofNat 114, OfNat.ofNat 116] } 6) (Tree.leaf { e := Ex.nrm, vs := [V.ptr 0 0 0 0, V.ptr 1 0 0 0, V.fn (Fn.func 45) [V.ptr 0 0 0 0] []], upd := [some (some (Body.cells [V.sl 2 0 0 1 n none, V.int IntKind.i64 (k + 1)])), some (some (Body.cells [V.int IntKind.u8 c.id.1, V.int IntKind.u8 c.id.2, V.int IntKind.u8 c.id.3, V.int IntKind.u8 c.id.4, V.int IntKind.u8 c.id.5, V.int IntKind.u8 c.id.6, V.int IntKind.u8 c.id.7, V.int IntKind.u8 c.id.8, V.int IntKind.i64 c.2, V.int IntKind.i64 c.3, V.int IntKind.i64 c.4, V.int IntKind.i64 c.q.1, V.int IntKind.i64 c.q.2, V.int IntKind.i64 c.q.3, V.int IntKind.i64 c.6, V.bool c.7, V.sl 3 0 0 6 1 none])), none], new := [Body.rows [K.int IntKind.i64, K.int IntKind.i64, K.int IntKind.i64, K.int IntKind.i64, K.int IntKind.i64, K.int IntKind.i64] [[V.int IntKind.i64 (tkV (txs rs) n k 0), V.int IntKind.i64 (tkV (txs rs) n k 1), V.int IntKind.i64 (tkV (txs rs) n k 2), V.int IntKind.i64 (tkV (txs rs) n k 3), V.int IntKind.i64 (tkV (txs rs) n k 4), V.int IntKind.i64 (tkV (txs rs) n k 5)]]] }) (Tree.ite (k == (↑n : Int)) (Tree.leaf { e := Ex.ret, vs := [V.bool false], upd := [none, none, none], new := [] }) (Tree.leaf { e := Ex.ret, vs := [V.fls], upd := [none, none, none], new := [] }))) Tree.fail) := by
  kernel_rfl
theorem alA_round (n : Nat) (k : Int) (rs qs : List (List V)) (m : Nat) (c : Cfh) : (evRound P (specsOf alG) (loopsOf []) 121 [0, 1, 5] [4] (loopAt Tryd.f37 0) [.ptr 0 0 0 0, .ptr 1 0 0 0, .fn (.func 45) [.ptr 0 0 0 0] []] [.cells [.sl 2 0 0 1 n none, .int .i64 k], .cells (cfV c (.sl 3 0 0 6 m none)), .rows [.str] rs, .rows poK qs]).den = Tree.den (Tree.ite (gdL (txs rs) n k) (Tree.ite (tkB (txs rs) n k { data := #[OfNat.ofNat 112, OfNat.ofNat 111, OfNat.ofNat 114, OfNat.ofNat 116] } 6) (Tree.ite (decide (0 + m ≤ qs.length) && true) (Tree.ite (decide ((List.take m (List.drop 0 qs) ++ [[V.int IntKind.i64 (tkV (txs rs) n k 0), V.int IntKind.i64 (tkV (txs rs) n k 1), V.int IntKind.i64 (tkV (txs rs) n k 2), V.int IntKind.i64 (tkV (txs rs) n k 3), V.int IntKind.i64 (tkV (txs rs) n k 4), V.int IntKind.i64 (tkV (txs rs) n k 5)]]).length * 48 ≤ 140737488355328)) (Tree.leaf { e := Ex.nrm, vs := [V.ptr 0 0 0 0, V.ptr 1 0 0 0, V.fn (Fn.func 45) [V.ptr 0 0 0 0] []], upd := [some (some (Body.cells [V.sl 2 0 0 1 n none, V.int IntKind.i64 (k + 1)])), some (some (Body.cells [V.int IntKind.u8 c.id.1, V.int IntKind.u8 c.id.2, V.int IntKind.u8 c.id.3, V.int IntKind.u8 c.id.4, V.int IntKind.u8 c.id.5, V.int IntKind.u8 c.id.6, V.int IntKind.u8 c.id.7, V.int IntKind.u8 c.id.8, V.int IntKind.i64 c.2, V.int IntKind.i64 c.3, V.int IntKind.i64 c.4, V.int IntKind.i64 c.q.1, V.int IntKind.i64 c.q.2, V.int IntKind.i64 c.q.3, V.int IntKind.i64 c.6, V.bool c.7, V.sl 4 0 0 6 (List.take m (List.drop 0 qs) ++ [[V.int IntKind.i64 (tkV (txs rs) n k 0), V.int IntKind.i64 (tkV (txs rs) n k 1), V.int IntKind.i64 (tkV (txs rs) n k 2), V.int IntKind.i64 (tkV (txs rs) n k 3), V.int IntKind.i64 (tkV (txs rs) n k 4), V.int IntKind.i64 (tkV (txs rs) n k 5)]]).length none])), none, some none], new := [Body.rows [K.int IntKind.i64, K.int IntKind.i64, K.int IntKind.i64, K.int IntKind.i64, K.int IntKind.i64, K.int IntKind.i64] (List.take m (List.drop 0 qs) ++ [[V.int IntKind.i64 (tkV (txs rs) n k 0), V.int IntKind.i64 (tkV (txs rs) n k 1), V.int IntKind.i64 (tkV (txs rs) n k 2), V.int IntKind.i64 (tkV (txs rs) n k 3), V.int IntKind.i64 (tkV (txs rs) n k 4), V.int IntKind.i64 (tkV (txs rs) n k 5)]])] }) Tree.fail) Tree.fail) (Tree.ite (k == (↑n : Int)) (Tree.leaf { e := Ex.ret, vs := [V.bool (decide ((↑m : Int) > 0))], upd := [none, none, none, none], new := [] }) (Tree.leaf { e := Ex.ret, vs := [V.fls], upd := [none, none, none, none], new := [] }))) Tree.fail) := by
  kernel_rfl
def alR (c : Cfh) (n : Nat) (k : Int) (qs : List (List V)) : List Pot → LRes
  | [] => ⟨.ret, [.bool (decide (k = n))], [none, none, none, none], []⟩
  | x :: xs => ⟨.ret, [.bool (decide (k + ((x :: xs).length : Int) = n))], [some (some (.cells [.sl 2 0 0 1 n none, .int .i64 (k + ((x :: xs).length : Int))])), some (some (.cells (cfV c (.sl 4 0 0 6 (qs ++ poRows (x :: xs)).length none)))), none, some none], [.rows poK (qs ++ poRows (x :: xs))]⟩
theorem gdL_next {L : List ByteArray} {n : Nat} {k : Int} (h : gdL L n k = true) : gdL L n (k + 1) = true := by
  simp only [gdL, Bool.and_eq_true, decide_eq_true_eq] at h ⊢
  exact ⟨⟨⟨by omega, h.1.1.2⟩, h.1.2⟩, h.2⟩
theorem beq_dec (a b : Int) : (a == b) = decide (a = b) := rfl
theorem alA_all {n : Nat} {c : Cfh} {rs : List (List V)} : ∀ (f : Nat) (k : Int) (qs : List (List V)), gdL (txs rs) n k = true → k ≤ n → (n : Int) < k + f → 1 ≤ qs.length → (qs.length : Int) ≤ k →
    loopM P (specsOf alG) (loopsOf []) 121 [0, 1, 5] [4] (loopAt Tryd.f37 0) f [.ptr 0 0 0 0, .ptr 1 0 0 0, .fn (.func 45) [.ptr 0 0 0 0] []] [.cells [.sl 2 0 0 1 n none, .int .i64 k], .cells (cfV c (.sl 3 0 0 6 qs.length none)), .rows [.str] rs, .rows poK qs] = some (alR c n k qs (poQ (txs rs) n f k)) := by
  intro f
  induction f with
  | zero => intro k qs hg hk hf h1 hq; omega
  | succ f ih =>
    intro k qs hg hk hf h1 hq
    have st := alA_round n k rs qs qs.length c
    rw [hg] at st
    have hN : n ≤ 1000000 := by
      simp only [gdL, Bool.and_eq_true, decide_eq_true_eq] at hg
      exact hg.1.2
    unfold poQ
    cases hp : pkB (txs rs) n k with
    | false =>
      have hp' : tkB (txs rs) n k { data := #[OfNat.ofNat 112, OfNat.ofNat 111, OfNat.ofNat 114, OfNat.ofNat 116] } 6 = false := hp
      rw [hp', beq_dec] at st
      show loopM _ _ _ _ _ _ _ (f + 1) _ _ = some ⟨.ret, [.bool (decide (k = n))], [none, none, none, none], []⟩
      by_cases hkn : k = n
      · rw [decide_eq_true hkn, decide_eq_true (show (qs.length : Int) > 0 by omega)] at st
        rw [decide_eq_true hkn]
        exact loopM_end st (by show Ex.ret ≠ Ex.nrm; decide) rfl
      · rw [decide_eq_false hkn] at st
        rw [decide_eq_false hkn]
        exact loopM_end st (by show Ex.ret ≠ Ex.nrm; decide) rfl
    | true =>
      have hp' : tkB (txs rs) n k { data := #[OfNat.ofNat 112, OfNat.ofNat 111, OfNat.ofNat 114, OfNat.ofNat 116] } 6 = true := hp
      have hkl := pk_lt hp
      rw [hp'] at st
      simp only [List.drop_zero, List.take_length] at st
      have hl : (qs ++ [poRow (pkV (txs rs) n k)]).length * 48 ≤ 140737488355328 := by simp; omega
      have st' : (evRound P (specsOf alG) (loopsOf []) 121 [0, 1, 5] [4] (loopAt Tryd.f37 0) [.ptr 0 0 0 0, .ptr 1 0 0 0, .fn (.func 45) [.ptr 0 0 0 0] []] [.cells [.sl 2 0 0 1 n none, .int .i64 k], .cells (cfV c (.sl 3 0 0 6 qs.length none)), .rows [.str] rs, .rows poK qs]).den =
          some ⟨.nrm, [.ptr 0 0 0 0, .ptr 1 0 0 0, .fn (.func 45) [.ptr 0 0 0 0] []], [some (some (.cells [.sl 2 0 0 1 n none, .int .i64 (k + 1)])), some (some (.cells (cfV c (.sl 4 0 0 6 (qs ++ [poRow (pkV (txs rs) n k)]).length none)))), none, some none], [.rows poK (qs ++ [poRow (pkV (txs rs) n k)])]⟩ := by
        refine st.trans ?_
        rw [decide_eq_true (show 0 + qs.length ≤ qs.length by omega)]
        have hl' : (qs ++ [[V.int IntKind.i64 (tkV (txs rs) n k 0), V.int IntKind.i64 (tkV (txs rs) n k 1), V.int IntKind.i64 (tkV (txs rs) n k 2), V.int IntKind.i64 (tkV (txs rs) n k 3), V.int IntKind.i64 (tkV (txs rs) n k 4), V.int IntKind.i64 (tkV (txs rs) n k 5)]]).length * 48 ≤ 140737488355328 := hl
        rw [decide_eq_true hl']
        rfl
      clear st
      have ih' := ih (k + 1) (qs ++ [poRow (pkV (txs rs) n k)]) (gdL_next hg) (by omega) (by omega) (by simp) (by simp; omega)
      refine loopM_step st' rfl (vals' := [.ptr 0 0 0 0, .ptr 1 0 0 0, .fn (.func 45) [.ptr 0 0 0 0] []]) (bs' := [.cells [.sl 2 0 0 1 n none, .int .i64 (k + 1)], .cells (cfV c (.sl 3 0 0 6 (qs ++ [poRow (pkV (txs rs) n k)]).length none)), .rows [.str] rs, .rows poK (qs ++ [poRow (pkV (txs rs) n k)])]) (by kernel_rfl) (by kernel_rfl) (by kernel_rfl) ih' ?_
      show _ = some (alR c n k qs (pkV (txs rs) n k :: poQ (txs rs) n f (k + 1)))
      cases poQ (txs rs) n f (k + 1) with
      | nil =>
        rw [alR, alR, show qs ++ poRows [pkV (txs rs) n k] = qs ++ [poRow (pkV (txs rs) n k)] from rfl, show k + (([pkV (txs rs) n k].length : Nat) : Int) = k + 1 from rfl]
        (show ((seqAfter _ _ _).den).map nrmL = some _; kernel_rfl)
      | cons y ys =>
        rw [alR, alR, show qs ++ poRows (pkV (txs rs) n k :: y :: ys) = (qs ++ [poRow (pkV (txs rs) n k)]) ++ poRows (y :: ys) by simp [poRows], show k + (((pkV (txs rs) n k :: y :: ys).length : Nat) : Int) = k + 1 + (((y :: ys).length : Nat) : Int) by simp; omega]
        (show ((seqAfter _ _ _).den).map nrmL = some _; kernel_rfl)
/-- What the loop over the ports' lines ends as. -/
def alF (vals : List V) (bs : List Blk) : Tree LRes := match vals, bs with
  | [.ptr 0 0 0 0, .ptr 1 0 0 0, .fn (.func 45) [.ptr 0 0 0 0] []], [.cells [.sl 2 0 0 1 n none, .int .i64 k], .cells cs, .rows [.str] rs] => match Cfh.p cs with
    | some (c, [.nils]) => .need (gdL (txs rs) n k) (.ite (pkB (txs rs) n k) (.leaf ⟨.ret, [.bool (decide (k + ((poQ (txs rs) n (n + 2) k).length : Int) = n))], [some (some (.cells [.sl 2 0 0 1 n none, .int .i64 (k + ((poQ (txs rs) n (n + 2) k).length : Int))])), some (some (.cells (cfV c (.sl 3 0 0 6 (poQ (txs rs) n (n + 2) k).length none)))), none], [.rows [.int .i64, .int .i64, .int .i64, .int .i64, .int .i64, .int .i64] (poRows (poQ (txs rs) n (n + 2) k))]⟩) (.leaf ⟨.ret, [.fls], [none, none, none], []⟩))
    | _ => .fail
  | _, _ => .fail
def alL : LSpec := ⟨121, [0, 1, 5], [4], alF⟩
theorem al_loop : LoopOK P (loopAt Tryd.f37 0) alL.nz := by
  refine loop_okM alG_ok hm (Λ := loopsOf []) (LoopsOK.nil (by kernel_rfl)) _ ?_
  intro vals bs r h
  simp only [alL, alF] at h
  split at h
  · split at h
    · rename_i n k cs rs _ c hc
      rw [Cfh.p_eq hc, cfV_eq]
      rw [den_need] at h
      obtain ⟨hg, h⟩ := h
      have st := alN_round n k rs c
      rw [hg] at st
      cases hp : pkB (txs rs) n k with
      | false =>
        rw [hp, denI, denLf] at h; cases h
        have hp' : tkB (txs rs) n k { data := #[OfNat.ofNat 112, OfNat.ofNat 111, OfNat.ofNat 114, OfNat.ofNat 116] } 6 = false := hp
        rw [hp'] at st
        refine ⟨1, ?_⟩
        cases hkn : (k == (n : Int)) with
        | true => rw [hkn] at st; exact loopM_end st (by show Ex.ret ≠ Ex.nrm; decide) rfl
        | false => rw [hkn] at st; exact loopM_end st (by show Ex.ret ≠ Ex.nrm; decide) rfl
      | true =>
        have hp' : tkB (txs rs) n k { data := #[OfNat.ofNat 112, OfNat.ofNat 111, OfNat.ofNat 114, OfNat.ofNat 116] } 6 = true := hp
        rw [hp'] at st
        have hkl := pk_lt hp
        have h0 : 0 ≤ k := by
          simp only [gdL, Bool.and_eq_true, decide_eq_true_eq] at hg
          exact hg.1.1.1
        rw [hp, denI, denLf] at h
        have e : poQ (txs rs) n (n + 2) k = pkV (txs rs) n k :: poQ (txs rs) n (n + 1) (k + 1) := by
          show (bif pkB (txs rs) n k then _ else _) = _
          rw [hp]; rfl
        have ih' := alA_all (c := c) (n + 1) (k + 1) [poRow (pkV (txs rs) n k)] (gdL_next hg) (by omega) (by omega) (by simp) (by simp; omega)
        refine ⟨n + 2, loopM_step st rfl (vals' := [.ptr 0 0 0 0, .ptr 1 0 0 0, .fn (.func 45) [.ptr 0 0 0 0] []]) (bs' := [.cells [.sl 2 0 0 1 n none, .int .i64 (k + 1)], .cells (cfV c (.sl 3 0 0 6 [poRow (pkV (txs rs) n k)].length none)), .rows [.str] rs, .rows poK [poRow (pkV (txs rs) n k)]]) (by kernel_rfl) (by kernel_rfl) (by kernel_rfl) ih' ?_⟩
        rw [e] at h
        cases h
        generalize poQ (txs rs) n (n + 1) (k + 1) = qs
        cases qs with
        | nil =>
          rw [alR]
          (show ((seqAfter _ _ _).den).map nrmL = some _; kernel_rfl)
        | cons y ys =>
          rw [alR, show [poRow (pkV (txs rs) n k)] ++ poRows (y :: ys) = poRows (pkV (txs rs) n k :: y :: ys) from rfl, poRows_len, show k + (((pkV (txs rs) n k :: y :: ys).length : Nat) : Int) = k + 1 + (((y :: ys).length : Nat) : Int) by simp; omega]
          (show ((seqAfter _ _ _).den).map nrmL = some _; kernel_rfl)
    · simp [den_fail] at h
  · simp [den_fail] at h
end Go.Proofs.YtkgbphheppfnaaaDoor

set_option maxRecDepth 100000
set_option linter.unusedSimpArgs false
set_option linter.unusedVariables false
namespace Go.Proofs.YtkgbphheppfnaaaDoor
open Go.Rx
def domW : ByteArray := ⟨#[100, 111, 109, 97, 105, 110]⟩
def priW : ByteArray := ⟨#[112, 114, 105, 111, 114, 105, 116, 121]⟩
def claW : ByteArray := ⟨#[99, 108, 97, 115, 115]⟩
def accW : ByteArray := ⟨#[97, 99, 99, 117, 114, 97, 99, 121]⟩
def varW : ByteArray := ⟨#[118, 97, 114, 105, 97, 110, 99, 101]⟩
def ppbW : ByteArray := ⟨#[112, 112, 98]⟩
/-- Are the lines ahead of the ports as they may be, and is there a port? -/
def alB (L : List ByteArray) (n : Nat) : Bool := (klB L n 0 && (kiB L n 0 && (tkB L n 1 domW 1 && (tkB L n 2 priW 2 && (tkB L n 3 claW 1 && (tkB L n 4 accW 1 && (tkB L n 5 varW 1 && (tkB L n 6 ppbW 1 && (bif tkB L n 7 slvW 0 then pkB L n 8 else pkB L n 7)))))))))
/-- Where the reader stands at the end. -/
def alAt (L : List ByteArray) (n : Nat) : Int := (bif klB L n 0 then (bif kiB L n 0 then (bif tkB L n 1 domW 1 then (bif tkB L n 2 priW 2 then (bif tkB L n 3 claW 1 then (bif tkB L n 4 accW 1 then (bif tkB L n 5 varW 1 then (bif tkB L n 6 ppbW 1 then (bif tkB L n 7 slvW 0 then 8 + ((poQ L n (n + 2) 8).length : Int) else 7 + ((poQ L n (n + 2) 7).length : Int)) else 6) else 5) else 4) else 3) else 2) else 1) else 0) else 0)
def alC (L : List ByteArray) (n : Nat) : Cfh := ⟨kiC L n 0, tkV L n 1 0, tkV L n 2 0, tkV L n 2 1, ⟨tkV L n 3 0, tkV L n 4 0, tkV L n 5 0⟩, tkV L n 6 0, tkB L n 7 slvW 0⟩
def alP (L : List ByteArray) (n : Nat) : List Pot := bif tkB L n 7 slvW 0 then poQ L n (n + 2) 8 else poQ L n (n + 2) 7
def alS : Rx.Spec := fun a b => match a, b with
  | [.ptr 0 0 0 0, .ptr 1 0 0 0], [.cells [.sl 2 0 0 1 n none, .int .i64 0], .cells [.int .u8 0, .int .u8 0, .int .u8 0, .int .u8 0, .int .u8 0, .int .u8 0, .int .u8 0, .int .u8 0, .int .i64 0, .int .i64 0, .int .i64 0, .int .i64 0, .int .i64 0, .int .i64 0, .int .i64 0, .fls, .nils], .rows [.str] rs] => .need (gdL (txs rs) n 0) (.ite (alB (txs rs) n)
      (.leaf ⟨.bool (decide (alAt (txs rs) n = n)), [some (some (.cells [.sl 2 0 0 1 n none, .int .i64 (alAt (txs rs) n)])), some (some (.cells (cfV (alC (txs rs) n) (.sl 3 0 0 6 (alP (txs rs) n).length none)))), none], [.rows [.int .i64, .int .i64, .int .i64, .int .i64, .int .i64, .int .i64] (poRows (alP (txs rs) n))]⟩)
      (.leaf ⟨.fls, [some (some (.cells [.sl 2 0 0 1 n none, .int .i64 (alAt (txs rs) n)])), some none, none], []⟩))
  | _, _ => .fail
theorem gdL_at {L : List ByteArray} {n : Nat} {j k : Int} (h : gdL L n j = true) (hk : 0 ≤ k) : gdL L n k = true := by
  simp only [gdL, Bool.and_eq_true, decide_eq_true_eq] at h ⊢
  exact ⟨⟨⟨hk, h.1.1.2⟩, h.1.2⟩, h.2⟩
theorem poQ_nil {L : List ByteArray} {n : Nat} {k : Int} (h : pkB L n k = false) (f : Nat) : poQ L n f k = [] := by
  cases f with
  | zero => rfl
  | succ f => unfold poQ; rw [h]; rfl
theorem al_ok : SpecOK P 37 alS := by
  refine specGive (inl_ok alG_ok hm Tryd.func37 (by kernel_rfl) (Λ := loopsOf [(8, alL.nz)]) (LoopsOK.one (by kernel_rfl) al_loop)) fun args bs r h => ?_
  unfold alS at h
  split at h
  · rename_i n rs
    rw [den_need] at h
    obtain ⟨hg, h⟩ := h
    have nf := show (fFn P (specsOf alG) (loopsOf [(8, alL.nz)]) Tryd.f37 [.ptr 0 0 0 0, .ptr 1 0 0 0] [.cells [.sl 2 0 0 1 n none, .int .i64 0], .cells zcV, .rows [.str] rs]).denN = Tree.denN (Tree.ite (gdL (txs rs) n 0) (Tree.ite (klB (txs rs) n 0) (Tree.ite (kiB (txs rs) n 0) (Tree.ite (gdL (txs rs) n 1) (Tree.ite (tkB (txs rs) n 1 { data := #[OfNat.ofNat 100, OfNat.ofNat 111, OfNat.ofNat 109, OfNat.ofNat 97, OfNat.ofNat 105, OfNat.ofNat 110] } 1) (Tree.ite (gdL (txs rs) n 2) (Tree.ite (tkB (txs rs) n 2 { data := #[OfNat.ofNat 112, OfNat.ofNat 114, OfNat.ofNat 105, OfNat.ofNat 111, OfNat.ofNat 114, OfNat.ofNat 105, OfNat.ofNat 116, OfNat.ofNat 121] } 2) (Tree.ite (gdL (txs rs) n 3) (Tree.ite (tkB (txs rs) n 3 { data := #[OfNat.ofNat 99, OfNat.ofNat 108, OfNat.ofNat 97, OfNat.ofNat 115, OfNat.ofNat 115] } 1) (Tree.ite (gdL (txs rs) n 4) (Tree.ite (tkB (txs rs) n 4 { data := #[OfNat.ofNat 97, OfNat.ofNat 99, OfNat.ofNat 99, OfNat.ofNat 117, OfNat.ofNat 114, OfNat.ofNat 97, OfNat.ofNat 99, OfNat.ofNat 121] } 1) (Tree.ite (gdL (txs rs) n 5) (Tree.ite (tkB (txs rs) n 5 { data := #[OfNat.ofNat 118, OfNat.ofNat 97, OfNat.ofNat 114, OfNat.ofNat 105, OfNat.ofNat 97, OfNat.ofNat 110, OfNat.ofNat 99, OfNat.ofNat 101] } 1) (Tree.ite (gdL (txs rs) n 6) (Tree.ite (tkB (txs rs) n 6 { data := #[OfNat.ofNat 112, OfNat.ofNat 112, OfNat.ofNat 98] } 1) (Tree.ite (gdL (txs rs) n 7) (Tree.ite (tkB (txs rs) n 7 { data := #[OfNat.ofNat 115, OfNat.ofNat 108, OfNat.ofNat 97, OfNat.ofNat 118, OfNat.ofNat 101] } 0) (Tree.ite (gdL (txs rs) n 8) (Tree.ite (pkB (txs rs) n 8) (Tree.leaf { v := V.bool (decide (8 + (↑(poQ (txs rs) n (n + 2) 8).length : Int) = (↑n : Int))), upd := [some (some (Body.cells [V.sl 2 0 0 1 n none, V.int IntKind.i64 (8 + (↑(poQ (txs rs) n (n + 2) 8).length : Int))])), some (some (Body.cells [V.int IntKind.u8 (hexV (sAt ((wdB (txs rs) n 0).getD 1 ByteArray.empty) 0) * 16 + hexV (sAt ((wdB (txs rs) n 0).getD 1 ByteArray.empty) 1)), V.int IntKind.u8 (hexV (sAt ((wdB (txs rs) n 0).getD 1 ByteArray.empty) 2) * 16 + hexV (sAt ((wdB (txs rs) n 0).getD 1 ByteArray.empty) 3)), V.int IntKind.u8 (hexV (sAt ((wdB (txs rs) n 0).getD 1 ByteArray.empty) 4) * 16 + hexV (sAt ((wdB (txs rs) n 0).getD 1 ByteArray.empty) 5)), V.int IntKind.u8 (hexV (sAt ((wdB (txs rs) n 0).getD 1 ByteArray.empty) 6) * 16 + hexV (sAt ((wdB (txs rs) n 0).getD 1 ByteArray.empty) 7)), V.int IntKind.u8 (hexV (sAt ((wdB (txs rs) n 0).getD 1 ByteArray.empty) 8) * 16 + hexV (sAt ((wdB (txs rs) n 0).getD 1 ByteArray.empty) 9)), V.int IntKind.u8 (hexV (sAt ((wdB (txs rs) n 0).getD 1 ByteArray.empty) 10) * 16 + hexV (sAt ((wdB (txs rs) n 0).getD 1 ByteArray.empty) 11)), V.int IntKind.u8 (hexV (sAt ((wdB (txs rs) n 0).getD 1 ByteArray.empty) 12) * 16 + hexV (sAt ((wdB (txs rs) n 0).getD 1 ByteArray.empty) 13)), V.int IntKind.u8 (hexV (sAt ((wdB (txs rs) n 0).getD 1 ByteArray.empty) 14) * 16 + hexV (sAt ((wdB (txs rs) n 0).getD 1 ByteArray.empty) 15)), V.int IntKind.i64 (tkV (txs rs) n 1 0), V.int IntKind.i64 (tkV (txs rs) n 2 0), V.int IntKind.i64 (tkV (txs rs) n 2 1), V.int IntKind.i64 (tkV (txs rs) n 3 0), V.int IntKind.i64 (tkV (txs rs) n 4 0), V.int IntKind.i64 (tkV (txs rs) n 5 0), V.int IntKind.i64 (tkV (txs rs) n 6 0), V.bool true, V.sl 3 0 0 6 (poQ (txs rs) n (n + 2) 8).length none])), none], new := [Body.rows [K.int IntKind.i64, K.int IntKind.i64, K.int IntKind.i64, K.int IntKind.i64, K.int IntKind.i64, K.int IntKind.i64] (poRows (poQ (txs rs) n (n + 2) 8))] }) (Tree.leaf { v := V.fls, upd := [some (some (Body.cells [V.sl 2 0 0 1 n none, V.int IntKind.i64 8])), some (some (Body.cells [V.int IntKind.u8 (hexV (sAt ((wdB (txs rs) n 0).getD 1 ByteArray.empty) 0) * 16 + hexV (sAt ((wdB (txs rs) n 0).getD 1 ByteArray.empty) 1)), V.int IntKind.u8 (hexV (sAt ((wdB (txs rs) n 0).getD 1 ByteArray.empty) 2) * 16 + hexV (sAt ((wdB (txs rs) n 0).getD 1 ByteArray.empty) 3)), V.int IntKind.u8 (hexV (sAt ((wdB (txs rs) n 0).getD 1 ByteArray.empty) 4) * 16 + hexV (sAt ((wdB (txs rs) n 0).getD 1 ByteArray.empty) 5)), V.int IntKind.u8 (hexV (sAt ((wdB (txs rs) n 0).getD 1 ByteArray.empty) 6) * 16 + hexV (sAt ((wdB (txs rs) n 0).getD 1 ByteArray.empty) 7)), V.int IntKind.u8 (hexV (sAt ((wdB (txs rs) n 0).getD 1 ByteArray.empty) 8) * 16 + hexV (sAt ((wdB (txs rs) n 0).getD 1 ByteArray.empty) 9)), V.int IntKind.u8 (hexV (sAt ((wdB (txs rs) n 0).getD 1 ByteArray.empty) 10) * 16 + hexV (sAt ((wdB (txs rs) n 0).getD 1 ByteArray.empty) 11)), V.int IntKind.u8 (hexV (sAt ((wdB (txs rs) n 0).getD 1 ByteArray.empty) 12) * 16 + hexV (sAt ((wdB (txs rs) n 0).getD 1 ByteArray.empty) 13)), V.int IntKind.u8 (hexV (sAt ((wdB (txs rs) n 0).getD 1 ByteArray.empty) 14) * 16 + hexV (sAt ((wdB (txs rs) n 0).getD 1 ByteArray.empty) 15)), V.int IntKind.i64 (tkV (txs rs) n 1 0), V.int IntKind.i64 (tkV (txs rs) n 2 0), V.int IntKind.i64 (tkV (txs rs) n 2 1), V.int IntKind.i64 (tkV (txs rs) n 3 0), V.int IntKind.i64 (tkV (txs rs) n 4 0), V.int IntKind.i64 (tkV (txs rs) n 5 0), V.int IntKind.i64 (tkV (txs rs) n 6 0), V.tru, V.nils])), none], new := [] })) Tree.fail) (Tree.ite (gdL (txs rs) n 7) (Tree.ite (pkB (txs rs) n 7) (Tree.leaf { v := V.bool (decide (7 + (↑(poQ (txs rs) n (n + 2) 7).length : Int) = (↑n : Int))), upd := [some (some (Body.cells [V.sl 2 0 0 1 n none, V.int IntKind.i64 (7 + (↑(poQ (txs rs) n (n + 2) 7).length : Int))])), some (some (Body.cells [V.int IntKind.u8 (hexV (sAt ((wdB (txs rs) n 0).getD 1 ByteArray.empty) 0) * 16 + hexV (sAt ((wdB (txs rs) n 0).getD 1 ByteArray.empty) 1)), V.int IntKind.u8 (hexV (sAt ((wdB (txs rs) n 0).getD 1 ByteArray.empty) 2) * 16 + hexV (sAt ((wdB (txs rs) n 0).getD 1 ByteArray.empty) 3)), V.int IntKind.u8 (hexV (sAt ((wdB (txs rs) n 0).getD 1 ByteArray.empty) 4) * 16 + hexV (sAt ((wdB (txs rs) n 0).getD 1 ByteArray.empty) 5)), V.int IntKind.u8 (hexV (sAt ((wdB (txs rs) n 0).getD 1 ByteArray.empty) 6) * 16 + hexV (sAt ((wdB (txs rs) n 0).getD 1 ByteArray.empty) 7)), V.int IntKind.u8 (hexV (sAt ((wdB (txs rs) n 0).getD 1 ByteArray.empty) 8) * 16 + hexV (sAt ((wdB (txs rs) n 0).getD 1 ByteArray.empty) 9)), V.int IntKind.u8 (hexV (sAt ((wdB (txs rs) n 0).getD 1 ByteArray.empty) 10) * 16 + hexV (sAt ((wdB (txs rs) n 0).getD 1 ByteArray.empty) 11)), V.int IntKind.u8 (hexV (sAt ((wdB (txs rs) n 0).getD 1 ByteArray.empty) 12) * 16 + hexV (sAt ((wdB (txs rs) n 0).getD 1 ByteArray.empty) 13)), V.int IntKind.u8 (hexV (sAt ((wdB (txs rs) n 0).getD 1 ByteArray.empty) 14) * 16 + hexV (sAt ((wdB (txs rs) n 0).getD 1 ByteArray.empty) 15)), V.int IntKind.i64 (tkV (txs rs) n 1 0), V.int IntKind.i64 (tkV (txs rs) n 2 0), V.int IntKind.i64 (tkV (txs rs) n 2 1), V.int IntKind.i64 (tkV (txs rs) n 3 0), V.int IntKind.i64 (tkV (txs rs) n 4 0), V.int IntKind.i64 (tkV (txs rs) n 5 0), V.int IntKind.i64 (tkV (txs rs) n 6 0), V.bool false, V.sl 3 0 0 6 (poQ (txs rs) n (n + 2) 7).length none])), none], new := [Body.rows [K.int IntKind.i64, K.int IntKind.i64, K.int IntKind.i64, K.int IntKind.i64, K.int IntKind.i64, K.int IntKind.i64] (poRows (poQ (txs rs) n (n + 2) 7))] }) (Tree.leaf { v := V.fls, upd := [some (some (Body.cells [V.sl 2 0 0 1 n none, V.int IntKind.i64 7])), some (some (Body.cells [V.int IntKind.u8 (hexV (sAt ((wdB (txs rs) n 0).getD 1 ByteArray.empty) 0) * 16 + hexV (sAt ((wdB (txs rs) n 0).getD 1 ByteArray.empty) 1)), V.int IntKind.u8 (hexV (sAt ((wdB (txs rs) n 0).getD 1 ByteArray.empty) 2) * 16 + hexV (sAt ((wdB (txs rs) n 0).getD 1 ByteArray.empty) 3)), V.int IntKind.u8 (hexV (sAt ((wdB (txs rs) n 0).getD 1 ByteArray.empty) 4) * 16 + hexV (sAt ((wdB (txs rs) n 0).getD 1 ByteArray.empty) 5)), V.int IntKind.u8 (hexV (sAt ((wdB (txs rs) n 0).getD 1 ByteArray.empty) 6) * 16 + hexV (sAt ((wdB (txs rs) n 0).getD 1 ByteArray.empty) 7)), V.int IntKind.u8 (hexV (sAt ((wdB (txs rs) n 0).getD 1 ByteArray.empty) 8) * 16 + hexV (sAt ((wdB (txs rs) n 0).getD 1 ByteArray.empty) 9)), V.int IntKind.u8 (hexV (sAt ((wdB (txs rs) n 0).getD 1 ByteArray.empty) 10) * 16 + hexV (sAt ((wdB (txs rs) n 0).getD 1 ByteArray.empty) 11)), V.int IntKind.u8 (hexV (sAt ((wdB (txs rs) n 0).getD 1 ByteArray.empty) 12) * 16 + hexV (sAt ((wdB (txs rs) n 0).getD 1 ByteArray.empty) 13)), V.int IntKind.u8 (hexV (sAt ((wdB (txs rs) n 0).getD 1 ByteArray.empty) 14) * 16 + hexV (sAt ((wdB (txs rs) n 0).getD 1 ByteArray.empty) 15)), V.int IntKind.i64 (tkV (txs rs) n 1 0), V.int IntKind.i64 (tkV (txs rs) n 2 0), V.int IntKind.i64 (tkV (txs rs) n 2 1), V.int IntKind.i64 (tkV (txs rs) n 3 0), V.int IntKind.i64 (tkV (txs rs) n 4 0), V.int IntKind.i64 (tkV (txs rs) n 5 0), V.int IntKind.i64 (tkV (txs rs) n 6 0), V.fls, V.nils])), none], new := [] })) Tree.fail)) Tree.fail) (Tree.leaf { v := V.fls, upd := [some (some (Body.cells [V.sl 2 0 0 1 n none, V.int IntKind.i64 6])), some none, none], new := [] })) Tree.fail) (Tree.leaf { v := V.fls, upd := [some (some (Body.cells [V.sl 2 0 0 1 n none, V.int IntKind.i64 5])), some none, none], new := [] })) Tree.fail) (Tree.leaf { v := V.fls, upd := [some (some (Body.cells [V.sl 2 0 0 1 n none, V.int IntKind.i64 4])), some none, none], new := [] })) Tree.fail) (Tree.leaf { v := V.fls, upd := [some (some (Body.cells [V.sl 2 0 0 1 n none, V.int IntKind.i64 3])), some none, none], new := [] })) Tree.fail) (Tree.leaf { v := V.fls, upd := [some (some (Body.cells [V.sl 2 0 0 1 n none, V.int IntKind.i64 2])), some none, none], new := [] })) Tree.fail) (Tree.leaf { v := V.fls, upd := [some (some (Body.cells [V.sl 2 0 0 1 n none, V.int IntKind.i64 1])), some none, none], new := [] })) Tree.fail) (Tree.leaf { v := V.fls, upd := [some (some (Body.cells [V.sl 2 0 0 1 n none, V.int IntKind.i64 0])), some none, none], new := [] })) (Tree.leaf { v := V.fls, upd := [some (some (Body.cells [V.sl 2 0 0 1 n none, V.int IntKind.i64 0])), some none, none], new := [] })) Tree.fail) from by kernel_rfl
    rw [hg, gdL_at (k := 1) hg (by decide), gdL_at (k := 2) hg (by decide), gdL_at (k := 3) hg (by decide), gdL_at (k := 4) hg (by decide), gdL_at (k := 5) hg (by decide), gdL_at (k := 6) hg (by decide), gdL_at (k := 7) hg (by decide), gdL_at (k := 8) hg (by decide)] at nf
    rw [show ({ data := #[OfNat.ofNat 100, OfNat.ofNat 111, OfNat.ofNat 109, OfNat.ofNat 97, OfNat.ofNat 105, OfNat.ofNat 110] } : ByteArray) = domW from rfl] at nf
    rw [show ({ data := #[OfNat.ofNat 112, OfNat.ofNat 114, OfNat.ofNat 105, OfNat.ofNat 111, OfNat.ofNat 114, OfNat.ofNat 105, OfNat.ofNat 116, OfNat.ofNat 121] } : ByteArray) = priW from rfl] at nf
    rw [show ({ data := #[OfNat.ofNat 99, OfNat.ofNat 108, OfNat.ofNat 97, OfNat.ofNat 115, OfNat.ofNat 115] } : ByteArray) = claW from rfl] at nf
    rw [show ({ data := #[OfNat.ofNat 97, OfNat.ofNat 99, OfNat.ofNat 99, OfNat.ofNat 117, OfNat.ofNat 114, OfNat.ofNat 97, OfNat.ofNat 99, OfNat.ofNat 121] } : ByteArray) = accW from rfl] at nf
    rw [show ({ data := #[OfNat.ofNat 118, OfNat.ofNat 97, OfNat.ofNat 114, OfNat.ofNat 105, OfNat.ofNat 97, OfNat.ofNat 110, OfNat.ofNat 99, OfNat.ofNat 101] } : ByteArray) = varW from rfl] at nf
    rw [show ({ data := #[OfNat.ofNat 112, OfNat.ofNat 112, OfNat.ofNat 98] } : ByteArray) = ppbW from rfl] at nf
    rw [show ({ data := #[OfNat.ofNat 115, OfNat.ofNat 108, OfNat.ofNat 97, OfNat.ofNat 118, OfNat.ofNat 101] } : ByteArray) = slvW from rfl] at nf
    generalize txs rs = L at nf h
    cases h0 : klB L n 0 with
    | false =>
      have hB : alB L n = false := by unfold alB; rw [h0]; rfl
      have hA : alAt L n = 0 := by unfold alAt; rw [h0]; rfl
      rw [hB, hA, denI, denLf] at h; cases h
      rw [h0] at nf
      exact ⟨_, nf.trans rfl, .inl rfl, .inr rfl, .inl rfl, trivial⟩
    | true =>
      cases h1 : kiB L n 0 with
      | false =>
        have hB : alB L n = false := by unfold alB; rw [h0, h1]; rfl
        have hA : alAt L n = 0 := by unfold alAt; rw [h0, h1]; rfl
        rw [hB, hA, denI, denLf] at h; cases h
        rw [h0, h1] at nf
        exact ⟨_, nf.trans rfl, .inl rfl, .inr rfl, .inl rfl, trivial⟩
      | true =>
        cases h2 : tkB L n 1 domW 1 with
        | false =>
          have hB : alB L n = false := by unfold alB; rw [h0, h1, h2]; rfl
          have hA : alAt L n = 1 := by unfold alAt; rw [h0, h1, h2]; rfl
          rw [hB, hA, denI, denLf] at h; cases h
          rw [h0, h1, h2] at nf
          exact ⟨_, nf.trans rfl, .inl rfl, .inr rfl, .inl rfl, trivial⟩
        | true =>
          cases h3 : tkB L n 2 priW 2 with
          | false =>
            have hB : alB L n = false := by unfold alB; rw [h0, h1, h2, h3]; rfl
            have hA : alAt L n = 2 := by unfold alAt; rw [h0, h1, h2, h3]; rfl
            rw [hB, hA, denI, denLf] at h; cases h
            rw [h0, h1, h2, h3] at nf
            exact ⟨_, nf.trans rfl, .inl rfl, .inr rfl, .inl rfl, trivial⟩
          | true =>
            cases h4 : tkB L n 3 claW 1 with
            | false =>
              have hB : alB L n = false := by unfold alB; rw [h0, h1, h2, h3, h4]; rfl
              have hA : alAt L n = 3 := by unfold alAt; rw [h0, h1, h2, h3, h4]; rfl
              rw [hB, hA, denI, denLf] at h; cases h
              rw [h0, h1, h2, h3, h4] at nf
              exact ⟨_, nf.trans rfl, .inl rfl, .inr rfl, .inl rfl, trivial⟩
            | true =>
              cases h5 : tkB L n 4 accW 1 with
              | false =>
                have hB : alB L n = false := by unfold alB; rw [h0, h1, h2, h3, h4, h5]; rfl
                have hA : alAt L n = 4 := by unfold alAt; rw [h0, h1, h2, h3, h4, h5]; rfl
                rw [hB, hA, denI, denLf] at h; cases h
                rw [h0, h1, h2, h3, h4, h5] at nf
                exact ⟨_, nf.trans rfl, .inl rfl, .inr rfl, .inl rfl, trivial⟩
              | true =>
                cases h6 : tkB L n 5 varW 1 with
                | false =>
                  have hB : alB L n = false := by unfold alB; rw [h0, h1, h2, h3, h4, h5, h6]; rfl
                  have hA : alAt L n = 5 := by unfold alAt; rw [h0, h1, h2, h3, h4, h5, h6]; rfl
                  rw [hB, hA, denI, denLf] at h; cases h
                  rw [h0, h1, h2, h3, h4, h5, h6] at nf
                  exact ⟨_, nf.trans rfl, .inl rfl, .inr rfl, .inl rfl, trivial⟩
                | true =>
                  cases h7 : tkB L n 6 ppbW 1 with
                  | false =>
                    have hB : alB L n = false := by unfold alB; rw [h0, h1, h2, h3, h4, h5, h6, h7]; rfl
                    have hA : alAt L n = 6 := by unfold alAt; rw [h0, h1, h2, h3, h4, h5, h6, h7]; rfl
                    rw [hB, hA, denI, denLf] at h; cases h
                    rw [h0, h1, h2, h3, h4, h5, h6, h7] at nf
                    exact ⟨_, nf.trans rfl, .inl rfl, .inr rfl, .inl rfl, trivial⟩
                  | true =>
                    cases h8 : tkB L n 7 slvW 0 with
                    | false =>
                      cases h9 : pkB L n 7 with
                      | false =>
                        have hB : alB L n = false := by unfold alB; rw [h0, h1, h2, h3, h4, h5, h6, h7, h8, h9]; rfl
                        have hA : alAt L n = 7 := by unfold alAt; rw [h0, h1, h2, h3, h4, h5, h6, h7, h8, poQ_nil h9]; rfl
                        rw [hB, hA, denI, denLf] at h; cases h
                        rw [h0, h1, h2, h3, h4, h5, h6, h7, h8, h9] at nf
                        exact ⟨_, nf.trans rfl, .inl rfl, .inr rfl, .inl rfl, trivial⟩
                      | true =>
                        have hB : alB L n = true := by unfold alB; rw [h0, h1, h2, h3, h4, h5, h6, h7, h8, h9]; rfl
                        have hA : alAt L n = 7 + ((poQ L n (n + 2) 7).length : Int) := by unfold alAt; rw [h0, h1, h2, h3, h4, h5, h6, h7, h8]; rfl
                        have hP : alP L n = poQ L n (n + 2) 7 := by unfold alP; rw [h8]; rfl
                        have hC : alC L n = ⟨kiC L n 0, tkV L n 1 0, tkV L n 2 0, tkV L n 2 1, ⟨tkV L n 3 0, tkV L n 4 0, tkV L n 5 0⟩, tkV L n 6 0, false⟩ := by unfold alC; rw [h8]
                        rw [hB, hA, hP, hC, denI, denLf] at h; cases h
                        rw [h0, h1, h2, h3, h4, h5, h6, h7, h8, h9] at nf
                        exact ⟨_, nf.trans rfl, .inl rfl, .inl rfl, .inl rfl, trivial⟩
                    | true =>
                      cases h9 : pkB L n 8 with
                      | false =>
                        have hB : alB L n = false := by unfold alB; rw [h0, h1, h2, h3, h4, h5, h6, h7, h8, h9]; rfl
                        have hA : alAt L n = 8 := by unfold alAt; rw [h0, h1, h2, h3, h4, h5, h6, h7, h8, poQ_nil h9]; rfl
                        rw [hB, hA, denI, denLf] at h; cases h
                        rw [h0, h1, h2, h3, h4, h5, h6, h7, h8, h9] at nf
                        exact ⟨_, nf.trans rfl, .inl rfl, .inr rfl, .inl rfl, trivial⟩
                      | true =>
                        have hB : alB L n = true := by unfold alB; rw [h0, h1, h2, h3, h4, h5, h6, h7, h8, h9]; rfl
                        have hA : alAt L n = 8 + ((poQ L n (n + 2) 8).length : Int) := by unfold alAt; rw [h0, h1, h2, h3, h4, h5, h6, h7, h8]; rfl
                        have hP : alP L n = poQ L n (n + 2) 8 := by unfold alP; rw [h8]; rfl
                        have hC : alC L n = ⟨kiC L n 0, tkV L n 1 0, tkV L n 2 0, tkV L n 2 1, ⟨tkV L n 3 0, tkV L n 4 0, tkV L n 5 0⟩, tkV L n 6 0, true⟩ := by unfold alC; rw [h8]
                        rw [hB, hA, hP, hC, denI, denLf] at h; cases h
                        rw [h0, h1, h2, h3, h4, h5, h6, h7, h8, h9] at nf
                        exact ⟨_, nf.trans rfl, .inl rfl, .inl rfl, .inl rfl, trivial⟩
  · simp [den_fail] at h
end Go.Proofs.YtkgbphheppfnaaaDoor

set_option maxRecDepth 100000
set_option linter.unusedSimpArgs false
set_option linter.unusedVariables false
namespace Go.Proofs.YtkgbphheppfnaaaDoor
open Go.Rx
abbrev psG : List (Nat × Rx.Spec) := [(36, sp2), (37, alS), (8, chS)]
theorem psG_ok : GammaOK P psG := .cons sp2_ok (.cons al_ok (.cons ck_ok (.nil P)))
def nlW : ByteArray := ⟨#[10]⟩
/-- What lies behind the last line's end. -/
def lsW (s : ByteArray) : ByteArray := (parts s nlW).getD ((parts s nlW).length - 1) .empty
/-- The lines that are read, and how many. -/
def lnL (s : ByteArray) : List ByteArray := bif sEq (lsW s) ⟨#[]⟩ then parts s nlW else (parts s nlW).take ((parts s nlW).length - 1) ++ [lsW s ++ nlW]
def lnN (s : ByteArray) : Nat := bif sEq (lsW s) ⟨#[]⟩ then (parts s nlW).length - 1 else (parts s nlW).length
def psC (s : ByteArray) : Cfh := alC (lnL s) (lnN s)
def psP (s : ByteArray) : List Pot := alP (lnL s) (lnN s)
/-- Is it read through? And where does the reader stand? Is nothing amiss? -/
def psA (s : ByteArray) : Bool := alB (lnL s) (lnN s) && decide (alAt (lnL s) (lnN s) = lnN s)
def psK (s : ByteArray) : Bool := sEq (chkW (psC s) (psP s).length (psP s)) wNone
def psT (s : ByteArray) : Int := alAt (lnL s) (lnN s) + 1
def psS : Rx.Spec := fun a b => match a, b with
  | [.str s], [] => .need (decide (s.size < 4294967280) && gdL (lnL s) (lnN s) 0) (.ite (psA s)
      (.ite (psK s) (.leaf ⟨.tup [.agg (cfV (psC s) (.sl 0 0 0 6 (psP s).length none)), .int .i64 0, .int .i64 0], [], [.rows [.int .i64, .int .i64, .int .i64, .int .i64, .int .i64, .int .i64] (poRows (psP s))]⟩)
        (.leaf ⟨.tup [.agg (cfV Cfh.zero .nils), .int .i64 0, .int .i64 170], [], []⟩))
      (.leaf ⟨.tup [.agg (cfV Cfh.zero .nils), .int .i64 (psT s), .int .i64 170], [], []⟩))
  | _, _ => .fail
theorem poQ_len (L : List ByteArray) (n : Nat) : ∀ (f : Nat) (k : Int), (poQ L n f k).length ≤ f
  | 0, k => Nat.le_refl _
  | f + 1, k => by
    unfold poQ
    cases pkB L n k with
    | false => exact Nat.zero_le _
    | true =>
      have := poQ_len L n f (k + 1)
      simp only [cond_true, List.length_cons]; omega
theorem alAt_le (L : List ByteArray) (n : Nat) : 0 ≤ alAt L n ∧ alAt L n ≤ n + 10 := by
  have h7 := poQ_len L n (n + 2) 7
  have h8 := poQ_len L n (n + 2) 8
  unfold alAt
  repeat' (first | (cases klB L n 0 <;> simp only [cond_true, cond_false]) | (cases kiB L n 0 <;> simp only [cond_true, cond_false]) | (cases tkB L n 1 domW 1 <;> simp only [cond_true, cond_false]) | (cases tkB L n 2 priW 2 <;> simp only [cond_true, cond_false]) | (cases tkB L n 3 claW 1 <;> simp only [cond_true, cond_false]) | (cases tkB L n 4 accW 1 <;> simp only [cond_true, cond_false]) | (cases tkB L n 5 varW 1 <;> simp only [cond_true, cond_false]) | (cases tkB L n 6 ppbW 1 <;> simp only [cond_true, cond_false]) | (cases tkB L n 7 slvW 0 <;> simp only [cond_true, cond_false]))
  all_goals omega
theorem poRows_dec (l : List Pot) : decide (l.length = (poRows l).length) = true := by rw [poRows_len, decide_eq_true rfl]
theorem ps_ok : SpecOK P 13 psS := by
  refine specOK_fast psG_ok hm (Λ := loopsOf []) Tryd.func13 (by kernel_rfl) (LoopsOK.nil (by kernel_rfl)) ?_
  intro args bs r h
  unfold psS at h
  split at h
  · rename_i s
    rw [den_need] at h
    obtain ⟨hg, h⟩ := h
    rw [Bool.and_eq_true, decide_eq_true_eq] at hg
    obtain ⟨hs, hg⟩ := hg
    rw [show (fFn P (specsOf psG) (loopsOf []) Tryd.f13 [.str s] []).denN = Tree.denN (Tree.ite (decide (s.size < 4294967281) && true) (Tree.ite (true && decide (0 ≤ IntKind.i64.wrap ((↑(parts s ({ data := #[OfNat.ofNat 10] } : ByteArray)).length : Int) - 1)) && decide (IntKind.i64.wrap ((↑(parts s ({ data := #[OfNat.ofNat 10] } : ByteArray)).length : Int) - 1) ≤ (↑(parts s ({ data := #[OfNat.ofNat 10] } : ByteArray)).length : Int))) (Tree.ite (decide (0 ≤ IntKind.i64.wrap ((↑(parts s ({ data := #[OfNat.ofNat 10] } : ByteArray)).length : Int) - 1)) && decide (IntKind.i64.wrap ((↑(parts s ({ data := #[OfNat.ofNat 10] } : ByteArray)).length : Int) - 1) < (↑(parts s ({ data := #[OfNat.ofNat 10] } : ByteArray)).length : Int))) (Tree.ite (decide (0 + (IntKind.i64.wrap ((↑(parts s ({ data := #[OfNat.ofNat 10] } : ByteArray)).length : Int) - 1)).toNat < (strs (parts s ({ data := #[OfNat.ofNat 10] } : ByteArray))).length)) (Tree.ite (!sEq (V.toStr (((strs (parts s ({ data := #[OfNat.ofNat 10] } : ByteArray))).getD (0 + (IntKind.i64.wrap ((↑(parts s ({ data := #[OfNat.ofNat 10] } : ByteArray)).length : Int) - 1)).toNat) []).getD 0 V.any)) ({ data := #[] } : ByteArray)) (Tree.ite (decide (0 ≤ IntKind.i64.wrap ((↑(parts s ({ data := #[OfNat.ofNat 10] } : ByteArray)).length : Int) - 1)) && decide (IntKind.i64.wrap ((↑(parts s ({ data := #[OfNat.ofNat 10] } : ByteArray)).length : Int) - 1) < (↑(parts s ({ data := #[OfNat.ofNat 10] } : ByteArray)).length : Int))) (Tree.ite (decide (0 + (IntKind.i64.wrap ((↑(parts s ({ data := #[OfNat.ofNat 10] } : ByteArray)).length : Int) - 1)).toNat < (strs (parts s ({ data := #[OfNat.ofNat 10] } : ByteArray))).length)) (Tree.ite (decide ((V.toStr (((strs (parts s ({ data := #[OfNat.ofNat 10] } : ByteArray))).getD (0 + (IntKind.i64.wrap ((↑(parts s ({ data := #[OfNat.ofNat 10] } : ByteArray)).length : Int) - 1)).toNat) []).getD 0 V.any)).size + 1 ≤ 9223372036854775807)) (Tree.ite (decide (0 + ((IntKind.i64.wrap ((↑(parts s ({ data := #[OfNat.ofNat 10] } : ByteArray)).length : Int) - 1)).toNat - 0) ≤ (strs (parts s ({ data := #[OfNat.ofNat 10] } : ByteArray))).length) && true) (Tree.ite (decide ((List.take ((IntKind.i64.wrap ((↑(parts s ({ data := #[OfNat.ofNat 10] } : ByteArray)).length : Int) - 1)).toNat - 0) (List.drop 0 (strs (parts s ({ data := #[OfNat.ofNat 10] } : ByteArray)))) ++ [[V.str ((V.toStr (((strs (parts s ({ data := #[OfNat.ofNat 10] } : ByteArray))).getD (0 + (IntKind.i64.wrap ((↑(parts s ({ data := #[OfNat.ofNat 10] } : ByteArray)).length : Int) - 1)).toNat) []).getD 0 V.any)) ++ ({ data := #[OfNat.ofNat 10] } : ByteArray))]]).length * 16 ≤ 140737488355328)) (Tree.ite (gdL (txs (List.take ((IntKind.i64.wrap ((↑(parts s ({ data := #[OfNat.ofNat 10] } : ByteArray)).length : Int) - 1)).toNat - 0) (List.drop 0 (strs (parts s ({ data := #[OfNat.ofNat 10] } : ByteArray)))) ++ [[V.str ((V.toStr (((strs (parts s ({ data := #[OfNat.ofNat 10] } : ByteArray))).getD (0 + (IntKind.i64.wrap ((↑(parts s ({ data := #[OfNat.ofNat 10] } : ByteArray)).length : Int) - 1)).toNat) []).getD 0 V.any)) ++ ({ data := #[OfNat.ofNat 10] } : ByteArray))]])) (List.take ((IntKind.i64.wrap ((↑(parts s ({ data := #[OfNat.ofNat 10] } : ByteArray)).length : Int) - 1)).toNat - 0) (List.drop 0 (strs (parts s ({ data := #[OfNat.ofNat 10] } : ByteArray)))) ++ [[V.str ((V.toStr (((strs (parts s ({ data := #[OfNat.ofNat 10] } : ByteArray))).getD (0 + (IntKind.i64.wrap ((↑(parts s ({ data := #[OfNat.ofNat 10] } : ByteArray)).length : Int) - 1)).toNat) []).getD 0 V.any)) ++ ({ data := #[OfNat.ofNat 10] } : ByteArray))]]).length 0) (Tree.ite (alB (txs (List.take ((IntKind.i64.wrap ((↑(parts s ({ data := #[OfNat.ofNat 10] } : ByteArray)).length : Int) - 1)).toNat - 0) (List.drop 0 (strs (parts s ({ data := #[OfNat.ofNat 10] } : ByteArray)))) ++ [[V.str ((V.toStr (((strs (parts s ({ data := #[OfNat.ofNat 10] } : ByteArray))).getD (0 + (IntKind.i64.wrap ((↑(parts s ({ data := #[OfNat.ofNat 10] } : ByteArray)).length : Int) - 1)).toNat) []).getD 0 V.any)) ++ ({ data := #[OfNat.ofNat 10] } : ByteArray))]])) (List.take ((IntKind.i64.wrap ((↑(parts s ({ data := #[OfNat.ofNat 10] } : ByteArray)).length : Int) - 1)).toNat - 0) (List.drop 0 (strs (parts s ({ data := #[OfNat.ofNat 10] } : ByteArray)))) ++ [[V.str ((V.toStr (((strs (parts s ({ data := #[OfNat.ofNat 10] } : ByteArray))).getD (0 + (IntKind.i64.wrap ((↑(parts s ({ data := #[OfNat.ofNat 10] } : ByteArray)).length : Int) - 1)).toNat) []).getD 0 V.any)) ++ ({ data := #[OfNat.ofNat 10] } : ByteArray))]]).length) (Tree.ite (!decide (alAt (txs (List.take ((IntKind.i64.wrap ((↑(parts s ({ data := #[OfNat.ofNat 10] } : ByteArray)).length : Int) - 1)).toNat - 0) (List.drop 0 (strs (parts s ({ data := #[OfNat.ofNat 10] } : ByteArray)))) ++ [[V.str ((V.toStr (((strs (parts s ({ data := #[OfNat.ofNat 10] } : ByteArray))).getD (0 + (IntKind.i64.wrap ((↑(parts s ({ data := #[OfNat.ofNat 10] } : ByteArray)).length : Int) - 1)).toNat) []).getD 0 V.any)) ++ ({ data := #[OfNat.ofNat 10] } : ByteArray))]])) (List.take ((IntKind.i64.wrap ((↑(parts s ({ data := #[OfNat.ofNat 10] } : ByteArray)).length : Int) - 1)).toNat - 0) (List.drop 0 (strs (parts s ({ data := #[OfNat.ofNat 10] } : ByteArray)))) ++ [[V.str ((V.toStr (((strs (parts s ({ data := #[OfNat.ofNat 10] } : ByteArray))).getD (0 + (IntKind.i64.wrap ((↑(parts s ({ data := #[OfNat.ofNat 10] } : ByteArray)).length : Int) - 1)).toNat) []).getD 0 V.any)) ++ ({ data := #[OfNat.ofNat 10] } : ByteArray))]]).length = (↑(List.take ((IntKind.i64.wrap ((↑(parts s ({ data := #[OfNat.ofNat 10] } : ByteArray)).length : Int) - 1)).toNat - 0) (List.drop 0 (strs (parts s ({ data := #[OfNat.ofNat 10] } : ByteArray)))) ++ [[V.str ((V.toStr (((strs (parts s ({ data := #[OfNat.ofNat 10] } : ByteArray))).getD (0 + (IntKind.i64.wrap ((↑(parts s ({ data := #[OfNat.ofNat 10] } : ByteArray)).length : Int) - 1)).toNat) []).getD 0 V.any)) ++ ({ data := #[OfNat.ofNat 10] } : ByteArray))]]).length : Int))) (Tree.leaf { v := V.tup [V.agg [V.int IntKind.u8 0, V.int IntKind.u8 0, V.int IntKind.u8 0, V.int IntKind.u8 0, V.int IntKind.u8 0, V.int IntKind.u8 0, V.int IntKind.u8 0, V.int IntKind.u8 0, V.int IntKind.i64 0, V.int IntKind.i64 0, V.int IntKind.i64 0, V.int IntKind.i64 0, V.int IntKind.i64 0, V.int IntKind.i64 0, V.int IntKind.i64 0, V.fls, V.nils], V.int IntKind.i64 (IntKind.i64.wrap (alAt (txs (List.take ((IntKind.i64.wrap ((↑(parts s ({ data := #[OfNat.ofNat 10] } : ByteArray)).length : Int) - 1)).toNat - 0) (List.drop 0 (strs (parts s ({ data := #[OfNat.ofNat 10] } : ByteArray)))) ++ [[V.str ((V.toStr (((strs (parts s ({ data := #[OfNat.ofNat 10] } : ByteArray))).getD (0 + (IntKind.i64.wrap ((↑(parts s ({ data := #[OfNat.ofNat 10] } : ByteArray)).length : Int) - 1)).toNat) []).getD 0 V.any)) ++ ({ data := #[OfNat.ofNat 10] } : ByteArray))]])) (List.take ((IntKind.i64.wrap ((↑(parts s ({ data := #[OfNat.ofNat 10] } : ByteArray)).length : Int) - 1)).toNat - 0) (List.drop 0 (strs (parts s ({ data := #[OfNat.ofNat 10] } : ByteArray)))) ++ [[V.str ((V.toStr (((strs (parts s ({ data := #[OfNat.ofNat 10] } : ByteArray))).getD (0 + (IntKind.i64.wrap ((↑(parts s ({ data := #[OfNat.ofNat 10] } : ByteArray)).length : Int) - 1)).toNat) []).getD 0 V.any)) ++ ({ data := #[OfNat.ofNat 10] } : ByteArray))]]).length + 1)), V.int IntKind.i64 170], upd := [], new := [] }) (Tree.ite (decide ((alP (txs (List.take ((IntKind.i64.wrap ((↑(parts s ({ data := #[OfNat.ofNat 10] } : ByteArray)).length : Int) - 1)).toNat - 0) (List.drop 0 (strs (parts s ({ data := #[OfNat.ofNat 10] } : ByteArray)))) ++ [[V.str ((V.toStr (((strs (parts s ({ data := #[OfNat.ofNat 10] } : ByteArray))).getD (0 + (IntKind.i64.wrap ((↑(parts s ({ data := #[OfNat.ofNat 10] } : ByteArray)).length : Int) - 1)).toNat) []).getD 0 V.any)) ++ ({ data := #[OfNat.ofNat 10] } : ByteArray))]])) (List.take ((IntKind.i64.wrap ((↑(parts s ({ data := #[OfNat.ofNat 10] } : ByteArray)).length : Int) - 1)).toNat - 0) (List.drop 0 (strs (parts s ({ data := #[OfNat.ofNat 10] } : ByteArray)))) ++ [[V.str ((V.toStr (((strs (parts s ({ data := #[OfNat.ofNat 10] } : ByteArray))).getD (0 + (IntKind.i64.wrap ((↑(parts s ({ data := #[OfNat.ofNat 10] } : ByteArray)).length : Int) - 1)).toNat) []).getD 0 V.any)) ++ ({ data := #[OfNat.ofNat 10] } : ByteArray))]]).length).length = (poRows (alP (txs (List.take ((IntKind.i64.wrap ((↑(parts s ({ data := #[OfNat.ofNat 10] } : ByteArray)).length : Int) - 1)).toNat - 0) (List.drop 0 (strs (parts s ({ data := #[OfNat.ofNat 10] } : ByteArray)))) ++ [[V.str ((V.toStr (((strs (parts s ({ data := #[OfNat.ofNat 10] } : ByteArray))).getD (0 + (IntKind.i64.wrap ((↑(parts s ({ data := #[OfNat.ofNat 10] } : ByteArray)).length : Int) - 1)).toNat) []).getD 0 V.any)) ++ ({ data := #[OfNat.ofNat 10] } : ByteArray))]])) (List.take ((IntKind.i64.wrap ((↑(parts s ({ data := #[OfNat.ofNat 10] } : ByteArray)).length : Int) - 1)).toNat - 0) (List.drop 0 (strs (parts s ({ data := #[OfNat.ofNat 10] } : ByteArray)))) ++ [[V.str ((V.toStr (((strs (parts s ({ data := #[OfNat.ofNat 10] } : ByteArray))).getD (0 + (IntKind.i64.wrap ((↑(parts s ({ data := #[OfNat.ofNat 10] } : ByteArray)).length : Int) - 1)).toNat) []).getD 0 V.any)) ++ ({ data := #[OfNat.ofNat 10] } : ByteArray))]]).length)).length)) (Tree.ite (!sEq (chkW { id := { b0 := hexV (sAt ((wdB (txs (List.take ((IntKind.i64.wrap ((↑(parts s ({ data := #[OfNat.ofNat 10] } : ByteArray)).length : Int) - 1)).toNat - 0) (List.drop 0 (strs (parts s ({ data := #[OfNat.ofNat 10] } : ByteArray)))) ++ [[V.str ((V.toStr (((strs (parts s ({ data := #[OfNat.ofNat 10] } : ByteArray))).getD (0 + (IntKind.i64.wrap ((↑(parts s ({ data := #[OfNat.ofNat 10] } : ByteArray)).length : Int) - 1)).toNat) []).getD 0 V.any)) ++ ({ data := #[OfNat.ofNat 10] } : ByteArray))]])) (List.take ((IntKind.i64.wrap ((↑(parts s ({ data := #[OfNat.ofNat 10] } : ByteArray)).length : Int) - 1)).toNat - 0) (List.drop 0 (strs (parts s ({ data := #[OfNat.ofNat 10] } : ByteArray)))) ++ [[V.str ((V.toStr (((strs (parts s ({ data := #[OfNat.ofNat 10] } : ByteArray))).getD (0 + (IntKind.i64.wrap ((↑(parts s ({ data := #[OfNat.ofNat 10] } : ByteArray)).length : Int) - 1)).toNat) []).getD 0 V.any)) ++ ({ data := #[OfNat.ofNat 10] } : ByteArray))]]).length 0).getD 1 ByteArray.empty) 0) * 16 + hexV (sAt ((wdB (txs (List.take ((IntKind.i64.wrap ((↑(parts s ({ data := #[OfNat.ofNat 10] } : ByteArray)).length : Int) - 1)).toNat - 0) (List.drop 0 (strs (parts s ({ data := #[OfNat.ofNat 10] } : ByteArray)))) ++ [[V.str ((V.toStr (((strs (parts s ({ data := #[OfNat.ofNat 10] } : ByteArray))).getD (0 + (IntKind.i64.wrap ((↑(parts s ({ data := #[OfNat.ofNat 10] } : ByteArray)).length : Int) - 1)).toNat) []).getD 0 V.any)) ++ ({ data := #[OfNat.ofNat 10] } : ByteArray))]])) (List.take ((IntKind.i64.wrap ((↑(parts s ({ data := #[OfNat.ofNat 10] } : ByteArray)).length : Int) - 1)).toNat - 0) (List.drop 0 (strs (parts s ({ data := #[OfNat.ofNat 10] } : ByteArray)))) ++ [[V.str ((V.toStr (((strs (parts s ({ data := #[OfNat.ofNat 10] } : ByteArray))).getD (0 + (IntKind.i64.wrap ((↑(parts s ({ data := #[OfNat.ofNat 10] } : ByteArray)).length : Int) - 1)).toNat) []).getD 0 V.any)) ++ ({ data := #[OfNat.ofNat 10] } : ByteArray))]]).length 0).getD 1 ByteArray.empty) 1), b1 := hexV (sAt ((wdB (txs (List.take ((IntKind.i64.wrap ((↑(parts s ({ data := #[OfNat.ofNat 10] } : ByteArray)).length : Int) - 1)).toNat - 0) (List.drop 0 (strs (parts s ({ data := #[OfNat.ofNat 10] } : ByteArray)))) ++ [[V.str ((V.toStr (((strs (parts s ({ data := #[OfNat.ofNat 10] } : ByteArray))).getD (0 + (IntKind.i64.wrap ((↑(parts s ({ data := #[OfNat.ofNat 10] } : ByteArray)).length : Int) - 1)).toNat) []).getD 0 V.any)) ++ ({ data := #[OfNat.ofNat 10] } : ByteArray))]])) (List.take ((IntKind.i64.wrap ((↑(parts s ({ data := #[OfNat.ofNat 10] } : ByteArray)).length : Int) - 1)).toNat - 0) (List.drop 0 (strs (parts s ({ data := #[OfNat.ofNat 10] } : ByteArray)))) ++ [[V.str ((V.toStr (((strs (parts s ({ data := #[OfNat.ofNat 10] } : ByteArray))).getD (0 + (IntKind.i64.wrap ((↑(parts s ({ data := #[OfNat.ofNat 10] } : ByteArray)).length : Int) - 1)).toNat) []).getD 0 V.any)) ++ ({ data := #[OfNat.ofNat 10] } : ByteArray))]]).length 0).getD 1 ByteArray.empty) 2) * 16 + hexV (sAt ((wdB (txs (List.take ((IntKind.i64.wrap ((↑(parts s ({ data := #[OfNat.ofNat 10] } : ByteArray)).length : Int) - 1)).toNat - 0) (List.drop 0 (strs (parts s ({ data := #[OfNat.ofNat 10] } : ByteArray)))) ++ [[V.str ((V.toStr (((strs (parts s ({ data := #[OfNat.ofNat 10] } : ByteArray))).getD (0 + (IntKind.i64.wrap ((↑(parts s ({ data := #[OfNat.ofNat 10] } : ByteArray)).length : Int) - 1)).toNat) []).getD 0 V.any)) ++ ({ data := #[OfNat.ofNat 10] } : ByteArray))]])) (List.take ((IntKind.i64.wrap ((↑(parts s ({ data := #[OfNat.ofNat 10] } : ByteArray)).length : Int) - 1)).toNat - 0) (List.drop 0 (strs (parts s ({ data := #[OfNat.ofNat 10] } : ByteArray)))) ++ [[V.str ((V.toStr (((strs (parts s ({ data := #[OfNat.ofNat 10] } : ByteArray))).getD (0 + (IntKind.i64.wrap ((↑(parts s ({ data := #[OfNat.ofNat 10] } : ByteArray)).length : Int) - 1)).toNat) []).getD 0 V.any)) ++ ({ data := #[OfNat.ofNat 10] } : ByteArray))]]).length 0).getD 1 ByteArray.empty) 3), b2 := hexV (sAt ((wdB (txs (List.take ((IntKind.i64.wrap ((↑(parts s ({ data := #[OfNat.ofNat 10] } : ByteArray)).length : Int) - 1)).toNat - 0) (List.drop 0 (strs (parts s ({ data := #[OfNat.ofNat 10] } : ByteArray)))) ++ [[V.str ((V.toStr (((strs (parts s ({ data := #[OfNat.ofNat 10] } : ByteArray))).getD (0 + (IntKind.i64.wrap ((↑(parts s ({ data := #[OfNat.ofNat 10] } : ByteArray)).length : Int) - 1)).toNat) []).getD 0 V.any)) ++ ({ data := #[OfNat.ofNat 10] } : ByteArray))]])) (List.take ((IntKind.i64.wrap ((↑(parts s ({ data := #[OfNat.ofNat 10] } : ByteArray)).length : Int) - 1)).toNat - 0) (List.drop 0 (strs (parts s ({ data := #[OfNat.ofNat 10] } : ByteArray)))) ++ [[V.str ((V.toStr (((strs (parts s ({ data := #[OfNat.ofNat 10] } : ByteArray))).getD (0 + (IntKind.i64.wrap ((↑(parts s ({ data := #[OfNat.ofNat 10] } : ByteArray)).length : Int) - 1)).toNat) []).getD 0 V.any)) ++ ({ data := #[OfNat.ofNat 10] } : ByteArray))]]).length 0).getD 1 ByteArray.empty) 4) * 16 + hexV (sAt ((wdB (txs (List.take ((IntKind.i64.wrap ((↑(parts s ({ data := #[OfNat.ofNat 10] } : ByteArray)).length : Int) - 1)).toNat - 0) (List.drop 0 (strs (parts s ({ data := #[OfNat.ofNat 10] } : ByteArray)))) ++ [[V.str ((V.toStr (((strs (parts s ({ data := #[OfNat.ofNat 10] } : ByteArray))).getD (0 + (IntKind.i64.wrap ((↑(parts s ({ data := #[OfNat.ofNat 10] } : ByteArray)).length : Int) - 1)).toNat) []).getD 0 V.any)) ++ ({ data := #[OfNat.ofNat 10] } : ByteArray))]])) (List.take ((IntKind.i64.wrap ((↑(parts s ({ data := #[OfNat.ofNat 10] } : ByteArray)).length : Int) - 1)).toNat - 0) (List.drop 0 (strs (parts s ({ data := #[OfNat.ofNat 10] } : ByteArray)))) ++ [[V.str ((V.toStr (((strs (parts s ({ data := #[OfNat.ofNat 10] } : ByteArray))).getD (0 + (IntKind.i64.wrap ((↑(parts s ({ data := #[OfNat.ofNat 10] } : ByteArray)).length : Int) - 1)).toNat) []).getD 0 V.any)) ++ ({ data := #[OfNat.ofNat 10] } : ByteArray))]]).length 0).getD 1 ByteArray.empty) 5), b3 := hexV (sAt ((wdB (txs (List.take ((IntKind.i64.wrap ((↑(parts s ({ data := #[OfNat.ofNat 10] } : ByteArray)).length : Int) - 1)).toNat - 0) (List.drop 0 (strs (parts s ({ data := #[OfNat.ofNat 10] } : ByteArray)))) ++ [[V.str ((V.toStr (((strs (parts s ({ data := #[OfNat.ofNat 10] } : ByteArray))).getD (0 + (IntKind.i64.wrap ((↑(parts s ({ data := #[OfNat.ofNat 10] } : ByteArray)).length : Int) - 1)).toNat) []).getD 0 V.any)) ++ ({ data := #[OfNat.ofNat 10] } : ByteArray))]])) (List.take ((IntKind.i64.wrap ((↑(parts s ({ data := #[OfNat.ofNat 10] } : ByteArray)).length : Int) - 1)).toNat - 0) (List.drop 0 (strs (parts s ({ data := #[OfNat.ofNat 10] } : ByteArray)))) ++ [[V.str ((V.toStr (((strs (parts s ({ data := #[OfNat.ofNat 10] } : ByteArray))).getD (0 + (IntKind.i64.wrap ((↑(parts s ({ data := #[OfNat.ofNat 10] } : ByteArray)).length : Int) - 1)).toNat) []).getD 0 V.any)) ++ ({ data := #[OfNat.ofNat 10] } : ByteArray))]]).length 0).getD 1 ByteArray.empty) 6) * 16 + hexV (sAt ((wdB (txs (List.take ((IntKind.i64.wrap ((↑(parts s ({ data := #[OfNat.ofNat 10] } : ByteArray)).length : Int) - 1)).toNat - 0) (List.drop 0 (strs (parts s ({ data := #[OfNat.ofNat 10] } : ByteArray)))) ++ [[V.str ((V.toStr (((strs (parts s ({ data := #[OfNat.ofNat 10] } : ByteArray))).getD (0 + (IntKind.i64.wrap ((↑(parts s ({ data := #[OfNat.ofNat 10] } : ByteArray)).length : Int) - 1)).toNat) []).getD 0 V.any)) ++ ({ data := #[OfNat.ofNat 10] } : ByteArray))]])) (List.take ((IntKind.i64.wrap ((↑(parts s ({ data := #[OfNat.ofNat 10] } : ByteArray)).length : Int) - 1)).toNat - 0) (List.drop 0 (strs (parts s ({ data := #[OfNat.ofNat 10] } : ByteArray)))) ++ [[V.str ((V.toStr (((strs (parts s ({ data := #[OfNat.ofNat 10] } : ByteArray))).getD (0 + (IntKind.i64.wrap ((↑(parts s ({ data := #[OfNat.ofNat 10] } : ByteArray)).length : Int) - 1)).toNat) []).getD 0 V.any)) ++ ({ data := #[OfNat.ofNat 10] } : ByteArray))]]).length 0).getD 1 ByteArray.empty) 7), b4 := hexV (sAt ((wdB (txs (List.take ((IntKind.i64.wrap ((↑(parts s ({ data := #[OfNat.ofNat 10] } : ByteArray)).length : Int) - 1)).toNat - 0) (List.drop 0 (strs (parts s ({ data := #[OfNat.ofNat 10] } : ByteArray)))) ++ [[V.str ((V.toStr (((strs (parts s ({ data := #[OfNat.ofNat 10] } : ByteArray))).getD (0 + (IntKind.i64.wrap ((↑(parts s ({ data := #[OfNat.ofNat 10] } : ByteArray)).length : Int) - 1)).toNat) []).getD 0 V.any)) ++ ({ data := #[OfNat.ofNat 10] } : ByteArray))]])) (List.take ((IntKind.i64.wrap ((↑(parts s ({ data := #[OfNat.ofNat 10] } : ByteArray)).length : Int) - 1)).toNat - 0) (List.drop 0 (strs (parts s ({ data := #[OfNat.ofNat 10] } : ByteArray)))) ++ [[V.str ((V.toStr (((strs (parts s ({ data := #[OfNat.ofNat 10] } : ByteArray))).getD (0 + (IntKind.i64.wrap ((↑(parts s ({ data := #[OfNat.ofNat 10] } : ByteArray)).length : Int) - 1)).toNat) []).getD 0 V.any)) ++ ({ data := #[OfNat.ofNat 10] } : ByteArray))]]).length 0).getD 1 ByteArray.empty) 8) * 16 + hexV (sAt ((wdB (txs (List.take ((IntKind.i64.wrap ((↑(parts s ({ data := #[OfNat.ofNat 10] } : ByteArray)).length : Int) - 1)).toNat - 0) (List.drop 0 (strs (parts s ({ data := #[OfNat.ofNat 10] } : ByteArray)))) ++ [[V.str ((V.toStr (((strs (parts s ({ data := #[OfNat.ofNat 10] } : ByteArray))).getD (0 + (IntKind.i64.wrap ((↑(parts s ({ data := #[OfNat.ofNat 10] } : ByteArray)).length : Int) - 1)).toNat) []).getD 0 V.any)) ++ ({ data := #[OfNat.ofNat 10] } : ByteArray))]])) (List.take ((IntKind.i64.wrap ((↑(parts s ({ data := #[OfNat.ofNat 10] } : ByteArray)).length : Int) - 1)).toNat - 0) (List.drop 0 (strs (parts s ({ data := #[OfNat.ofNat 10] } : ByteArray)))) ++ [[V.str ((V.toStr (((strs (parts s ({ data := #[OfNat.ofNat 10] } : ByteArray))).getD (0 + (IntKind.i64.wrap ((↑(parts s ({ data := #[OfNat.ofNat 10] } : ByteArray)).length : Int) - 1)).toNat) []).getD 0 V.any)) ++ ({ data := #[OfNat.ofNat 10] } : ByteArray))]]).length 0).getD 1 ByteArray.empty) 9), b5 := hexV (sAt ((wdB (txs (List.take ((IntKind.i64.wrap ((↑(parts s ({ data := #[OfNat.ofNat 10] } : ByteArray)).length : Int) - 1)).toNat - 0) (List.drop 0 (strs (parts s ({ data := #[OfNat.ofNat 10] } : ByteArray)))) ++ [[V.str ((V.toStr (((strs (parts s ({ data := #[OfNat.ofNat 10] } : ByteArray))).getD (0 + (IntKind.i64.wrap ((↑(parts s ({ data := #[OfNat.ofNat 10] } : ByteArray)).length : Int) - 1)).toNat) []).getD 0 V.any)) ++ ({ data := #[OfNat.ofNat 10] } : ByteArray))]])) (List.take ((IntKind.i64.wrap ((↑(parts s ({ data := #[OfNat.ofNat 10] } : ByteArray)).length : Int) - 1)).toNat - 0) (List.drop 0 (strs (parts s ({ data := #[OfNat.ofNat 10] } : ByteArray)))) ++ [[V.str ((V.toStr (((strs (parts s ({ data := #[OfNat.ofNat 10] } : ByteArray))).getD (0 + (IntKind.i64.wrap ((↑(parts s ({ data := #[OfNat.ofNat 10] } : ByteArray)).length : Int) - 1)).toNat) []).getD 0 V.any)) ++ ({ data := #[OfNat.ofNat 10] } : ByteArray))]]).length 0).getD 1 ByteArray.empty) 10) * 16 + hexV (sAt ((wdB (txs (List.take ((IntKind.i64.wrap ((↑(parts s ({ data := #[OfNat.ofNat 10] } : ByteArray)).length : Int) - 1)).toNat - 0) (List.drop 0 (strs (parts s ({ data := #[OfNat.ofNat 10] } : ByteArray)))) ++ [[V.str ((V.toStr (((strs (parts s ({ data := #[OfNat.ofNat 10] } : ByteArray))).getD (0 + (IntKind.i64.wrap ((↑(parts s ({ data := #[OfNat.ofNat 10] } : ByteArray)).length : Int) - 1)).toNat) []).getD 0 V.any)) ++ ({ data := #[OfNat.ofNat 10] } : ByteArray))]])) (List.take ((IntKind.i64.wrap ((↑(parts s ({ data := #[OfNat.ofNat 10] } : ByteArray)).length : Int) - 1)).toNat - 0) (List.drop 0 (strs (parts s ({ data := #[OfNat.ofNat 10] } : ByteArray)))) ++ [[V.str ((V.toStr (((strs (parts s ({ data := #[OfNat.ofNat 10] } : ByteArray))).getD (0 + (IntKind.i64.wrap ((↑(parts s ({ data := #[OfNat.ofNat 10] } : ByteArray)).length : Int) - 1)).toNat) []).getD 0 V.any)) ++ ({ data := #[OfNat.ofNat 10] } : ByteArray))]]).length 0).getD 1 ByteArray.empty) 11), b6 := hexV (sAt ((wdB (txs (List.take ((IntKind.i64.wrap ((↑(parts s ({ data := #[OfNat.ofNat 10] } : ByteArray)).length : Int) - 1)).toNat - 0) (List.drop 0 (strs (parts s ({ data := #[OfNat.ofNat 10] } : ByteArray)))) ++ [[V.str ((V.toStr (((strs (parts s ({ data := #[OfNat.ofNat 10] } : ByteArray))).getD (0 + (IntKind.i64.wrap ((↑(parts s ({ data := #[OfNat.ofNat 10] } : ByteArray)).length : Int) - 1)).toNat) []).getD 0 V.any)) ++ ({ data := #[OfNat.ofNat 10] } : ByteArray))]])) (List.take ((IntKind.i64.wrap ((↑(parts s ({ data := #[OfNat.ofNat 10] } : ByteArray)).length : Int) - 1)).toNat - 0) (List.drop 0 (strs (parts s ({ data := #[OfNat.ofNat 10] } : ByteArray)))) ++ [[V.str ((V.toStr (((strs (parts s ({ data := #[OfNat.ofNat 10] } : ByteArray))).getD (0 + (IntKind.i64.wrap ((↑(parts s ({ data := #[OfNat.ofNat 10] } : ByteArray)).length : Int) - 1)).toNat) []).getD 0 V.any)) ++ ({ data := #[OfNat.ofNat 10] } : ByteArray))]]).length 0).getD 1 ByteArray.empty) 12) * 16 + hexV (sAt ((wdB (txs (List.take ((IntKind.i64.wrap ((↑(parts s ({ data := #[OfNat.ofNat 10] } : ByteArray)).length : Int) - 1)).toNat - 0) (List.drop 0 (strs (parts s ({ data := #[OfNat.ofNat 10] } : ByteArray)))) ++ [[V.str ((V.toStr (((strs (parts s ({ data := #[OfNat.ofNat 10] } : ByteArray))).getD (0 + (IntKind.i64.wrap ((↑(parts s ({ data := #[OfNat.ofNat 10] } : ByteArray)).length : Int) - 1)).toNat) []).getD 0 V.any)) ++ ({ data := #[OfNat.ofNat 10] } : ByteArray))]])) (List.take ((IntKind.i64.wrap ((↑(parts s ({ data := #[OfNat.ofNat 10] } : ByteArray)).length : Int) - 1)).toNat - 0) (List.drop 0 (strs (parts s ({ data := #[OfNat.ofNat 10] } : ByteArray)))) ++ [[V.str ((V.toStr (((strs (parts s ({ data := #[OfNat.ofNat 10] } : ByteArray))).getD (0 + (IntKind.i64.wrap ((↑(parts s ({ data := #[OfNat.ofNat 10] } : ByteArray)).length : Int) - 1)).toNat) []).getD 0 V.any)) ++ ({ data := #[OfNat.ofNat 10] } : ByteArray))]]).length 0).getD 1 ByteArray.empty) 13), b7 := hexV (sAt ((wdB (txs (List.take ((IntKind.i64.wrap ((↑(parts s ({ data := #[OfNat.ofNat 10] } : ByteArray)).length : Int) - 1)).toNat - 0) (List.drop 0 (strs (parts s ({ data := #[OfNat.ofNat 10] } : ByteArray)))) ++ [[V.str ((V.toStr (((strs (parts s ({ data := #[OfNat.ofNat 10] } : ByteArray))).getD (0 + (IntKind.i64.wrap ((↑(parts s ({ data := #[OfNat.ofNat 10] } : ByteArray)).length : Int) - 1)).toNat) []).getD 0 V.any)) ++ ({ data := #[OfNat.ofNat 10] } : ByteArray))]])) (List.take ((IntKind.i64.wrap ((↑(parts s ({ data := #[OfNat.ofNat 10] } : ByteArray)).length : Int) - 1)).toNat - 0) (List.drop 0 (strs (parts s ({ data := #[OfNat.ofNat 10] } : ByteArray)))) ++ [[V.str ((V.toStr (((strs (parts s ({ data := #[OfNat.ofNat 10] } : ByteArray))).getD (0 + (IntKind.i64.wrap ((↑(parts s ({ data := #[OfNat.ofNat 10] } : ByteArray)).length : Int) - 1)).toNat) []).getD 0 V.any)) ++ ({ data := #[OfNat.ofNat 10] } : ByteArray))]]).length 0).getD 1 ByteArray.empty) 14) * 16 + hexV (sAt ((wdB (txs (List.take ((IntKind.i64.wrap ((↑(parts s ({ data := #[OfNat.ofNat 10] } : ByteArray)).length : Int) - 1)).toNat - 0) (List.drop 0 (strs (parts s ({ data := #[OfNat.ofNat 10] } : ByteArray)))) ++ [[V.str ((V.toStr (((strs (parts s ({ data := #[OfNat.ofNat 10] } : ByteArray))).getD (0 + (IntKind.i64.wrap ((↑(parts s ({ data := #[OfNat.ofNat 10] } : ByteArray)).length : Int) - 1)).toNat) []).getD 0 V.any)) ++ ({ data := #[OfNat.ofNat 10] } : ByteArray))]])) (List.take ((IntKind.i64.wrap ((↑(parts s ({ data := #[OfNat.ofNat 10] } : ByteArray)).length : Int) - 1)).toNat - 0) (List.drop 0 (strs (parts s ({ data := #[OfNat.ofNat 10] } : ByteArray)))) ++ [[V.str ((V.toStr (((strs (parts s ({ data := #[OfNat.ofNat 10] } : ByteArray))).getD (0 + (IntKind.i64.wrap ((↑(parts s ({ data := #[OfNat.ofNat 10] } : ByteArray)).length : Int) - 1)).toNat) []).getD 0 V.any)) ++ ({ data := #[OfNat.ofNat 10] } : ByteArray))]]).length 0).getD 1 ByteArray.empty) 15) }, dom := tkV (txs (List.take ((IntKind.i64.wrap ((↑(parts s ({ data := #[OfNat.ofNat 10] } : ByteArray)).length : Int) - 1)).toNat - 0) (List.drop 0 (strs (parts s ({ data := #[OfNat.ofNat 10] } : ByteArray)))) ++ [[V.str ((V.toStr (((strs (parts s ({ data := #[OfNat.ofNat 10] } : ByteArray))).getD (0 + (IntKind.i64.wrap ((↑(parts s ({ data := #[OfNat.ofNat 10] } : ByteArray)).length : Int) - 1)).toNat) []).getD 0 V.any)) ++ ({ data := #[OfNat.ofNat 10] } : ByteArray))]])) (List.take ((IntKind.i64.wrap ((↑(parts s ({ data := #[OfNat.ofNat 10] } : ByteArray)).length : Int) - 1)).toNat - 0) (List.drop 0 (strs (parts s ({ data := #[OfNat.ofNat 10] } : ByteArray)))) ++ [[V.str ((V.toStr (((strs (parts s ({ data := #[OfNat.ofNat 10] } : ByteArray))).getD (0 + (IntKind.i64.wrap ((↑(parts s ({ data := #[OfNat.ofNat 10] } : ByteArray)).length : Int) - 1)).toNat) []).getD 0 V.any)) ++ ({ data := #[OfNat.ofNat 10] } : ByteArray))]]).length 1 0, p1 := tkV (txs (List.take ((IntKind.i64.wrap ((↑(parts s ({ data := #[OfNat.ofNat 10] } : ByteArray)).length : Int) - 1)).toNat - 0) (List.drop 0 (strs (parts s ({ data := #[OfNat.ofNat 10] } : ByteArray)))) ++ [[V.str ((V.toStr (((strs (parts s ({ data := #[OfNat.ofNat 10] } : ByteArray))).getD (0 + (IntKind.i64.wrap ((↑(parts s ({ data := #[OfNat.ofNat 10] } : ByteArray)).length : Int) - 1)).toNat) []).getD 0 V.any)) ++ ({ data := #[OfNat.ofNat 10] } : ByteArray))]])) (List.take ((IntKind.i64.wrap ((↑(parts s ({ data := #[OfNat.ofNat 10] } : ByteArray)).length : Int) - 1)).toNat - 0) (List.drop 0 (strs (parts s ({ data := #[OfNat.ofNat 10] } : ByteArray)))) ++ [[V.str ((V.toStr (((strs (parts s ({ data := #[OfNat.ofNat 10] } : ByteArray))).getD (0 + (IntKind.i64.wrap ((↑(parts s ({ data := #[OfNat.ofNat 10] } : ByteArray)).length : Int) - 1)).toNat) []).getD 0 V.any)) ++ ({ data := #[OfNat.ofNat 10] } : ByteArray))]]).length 2 0, p2 := tkV (txs (List.take ((IntKind.i64.wrap ((↑(parts s ({ data := #[OfNat.ofNat 10] } : ByteArray)).length : Int) - 1)).toNat - 0) (List.drop 0 (strs (parts s ({ data := #[OfNat.ofNat 10] } : ByteArray)))) ++ [[V.str ((V.toStr (((strs (parts s ({ data := #[OfNat.ofNat 10] } : ByteArray))).getD (0 + (IntKind.i64.wrap ((↑(parts s ({ data := #[OfNat.ofNat 10] } : ByteArray)).length : Int) - 1)).toNat) []).getD 0 V.any)) ++ ({ data := #[OfNat.ofNat 10] } : ByteArray))]])) (List.take ((IntKind.i64.wrap ((↑(parts s ({ data := #[OfNat.ofNat 10] } : ByteArray)).length : Int) - 1)).toNat - 0) (List.drop 0 (strs (parts s ({ data := #[OfNat.ofNat 10] } : ByteArray)))) ++ [[V.str ((V.toStr (((strs (parts s ({ data := #[OfNat.ofNat 10] } : ByteArray))).getD (0 + (IntKind.i64.wrap ((↑(parts s ({ data := #[OfNat.ofNat 10] } : ByteArray)).length : Int) - 1)).toNat) []).getD 0 V.any)) ++ ({ data := #[OfNat.ofNat 10] } : ByteArray))]]).length 2 1, q := { cl := tkV (txs (List.take ((IntKind.i64.wrap ((↑(parts s ({ data := #[OfNat.ofNat 10] } : ByteArray)).length : Int) - 1)).toNat - 0) (List.drop 0 (strs (parts s ({ data := #[OfNat.ofNat 10] } : ByteArray)))) ++ [[V.str ((V.toStr (((strs (parts s ({ data := #[OfNat.ofNat 10] } : ByteArray))).getD (0 + (IntKind.i64.wrap ((↑(parts s ({ data := #[OfNat.ofNat 10] } : ByteArray)).length : Int) - 1)).toNat) []).getD 0 V.any)) ++ ({ data := #[OfNat.ofNat 10] } : ByteArray))]])) (List.take ((IntKind.i64.wrap ((↑(parts s ({ data := #[OfNat.ofNat 10] } : ByteArray)).length : Int) - 1)).toNat - 0) (List.drop 0 (strs (parts s ({ data := #[OfNat.ofNat 10] } : ByteArray)))) ++ [[V.str ((V.toStr (((strs (parts s ({ data := #[OfNat.ofNat 10] } : ByteArray))).getD (0 + (IntKind.i64.wrap ((↑(parts s ({ data := #[OfNat.ofNat 10] } : ByteArray)).length : Int) - 1)).toNat) []).getD 0 V.any)) ++ ({ data := #[OfNat.ofNat 10] } : ByteArray))]]).length 3 0, ac := tkV (txs (List.take ((IntKind.i64.wrap ((↑(parts s ({ data := #[OfNat.ofNat 10] } : ByteArray)).length : Int) - 1)).toNat - 0) (List.drop 0 (strs (parts s ({ data := #[OfNat.ofNat 10] } : ByteArray)))) ++ [[V.str ((V.toStr (((strs (parts s ({ data := #[OfNat.ofNat 10] } : ByteArray))).getD (0 + (IntKind.i64.wrap ((↑(parts s ({ data := #[OfNat.ofNat 10] } : ByteArray)).length : Int) - 1)).toNat) []).getD 0 V.any)) ++ ({ data := #[OfNat.ofNat 10] } : ByteArray))]])) (List.take ((IntKind.i64.wrap ((↑(parts s ({ data := #[OfNat.ofNat 10] } : ByteArray)).length : Int) - 1)).toNat - 0) (List.drop 0 (strs (parts s ({ data := #[OfNat.ofNat 10] } : ByteArray)))) ++ [[V.str ((V.toStr (((strs (parts s ({ data := #[OfNat.ofNat 10] } : ByteArray))).getD (0 + (IntKind.i64.wrap ((↑(parts s ({ data := #[OfNat.ofNat 10] } : ByteArray)).length : Int) - 1)).toNat) []).getD 0 V.any)) ++ ({ data := #[OfNat.ofNat 10] } : ByteArray))]]).length 4 0, va := tkV (txs (List.take ((IntKind.i64.wrap ((↑(parts s ({ data := #[OfNat.ofNat 10] } : ByteArray)).length : Int) - 1)).toNat - 0) (List.drop 0 (strs (parts s ({ data := #[OfNat.ofNat 10] } : ByteArray)))) ++ [[V.str ((V.toStr (((strs (parts s ({ data := #[OfNat.ofNat 10] } : ByteArray))).getD (0 + (IntKind.i64.wrap ((↑(parts s ({ data := #[OfNat.ofNat 10] } : ByteArray)).length : Int) - 1)).toNat) []).getD 0 V.any)) ++ ({ data := #[OfNat.ofNat 10] } : ByteArray))]])) (List.take ((IntKind.i64.wrap ((↑(parts s ({ data := #[OfNat.ofNat 10] } : ByteArray)).length : Int) - 1)).toNat - 0) (List.drop 0 (strs (parts s ({ data := #[OfNat.ofNat 10] } : ByteArray)))) ++ [[V.str ((V.toStr (((strs (parts s ({ data := #[OfNat.ofNat 10] } : ByteArray))).getD (0 + (IntKind.i64.wrap ((↑(parts s ({ data := #[OfNat.ofNat 10] } : ByteArray)).length : Int) - 1)).toNat) []).getD 0 V.any)) ++ ({ data := #[OfNat.ofNat 10] } : ByteArray))]]).length 5 0 }, ppb := tkV (txs (List.take ((IntKind.i64.wrap ((↑(parts s ({ data := #[OfNat.ofNat 10] } : ByteArray)).length : Int) - 1)).toNat - 0) (List.drop 0 (strs (parts s ({ data := #[OfNat.ofNat 10] } : ByteArray)))) ++ [[V.str ((V.toStr (((strs (parts s ({ data := #[OfNat.ofNat 10] } : ByteArray))).getD (0 + (IntKind.i64.wrap ((↑(parts s ({ data := #[OfNat.ofNat 10] } : ByteArray)).length : Int) - 1)).toNat) []).getD 0 V.any)) ++ ({ data := #[OfNat.ofNat 10] } : ByteArray))]])) (List.take ((IntKind.i64.wrap ((↑(parts s ({ data := #[OfNat.ofNat 10] } : ByteArray)).length : Int) - 1)).toNat - 0) (List.drop 0 (strs (parts s ({ data := #[OfNat.ofNat 10] } : ByteArray)))) ++ [[V.str ((V.toStr (((strs (parts s ({ data := #[OfNat.ofNat 10] } : ByteArray))).getD (0 + (IntKind.i64.wrap ((↑(parts s ({ data := #[OfNat.ofNat 10] } : ByteArray)).length : Int) - 1)).toNat) []).getD 0 V.any)) ++ ({ data := #[OfNat.ofNat 10] } : ByteArray))]]).length 6 0, sl := tkB (txs (List.take ((IntKind.i64.wrap ((↑(parts s ({ data := #[OfNat.ofNat 10] } : ByteArray)).length : Int) - 1)).toNat - 0) (List.drop 0 (strs (parts s ({ data := #[OfNat.ofNat 10] } : ByteArray)))) ++ [[V.str ((V.toStr (((strs (parts s ({ data := #[OfNat.ofNat 10] } : ByteArray))).getD (0 + (IntKind.i64.wrap ((↑(parts s ({ data := #[OfNat.ofNat 10] } : ByteArray)).length : Int) - 1)).toNat) []).getD 0 V.any)) ++ ({ data := #[OfNat.ofNat 10] } : ByteArray))]])) (List.take ((IntKind.i64.wrap ((↑(parts s ({ data := #[OfNat.ofNat 10] } : ByteArray)).length : Int) - 1)).toNat - 0) (List.drop 0 (strs (parts s ({ data := #[OfNat.ofNat 10] } : ByteArray)))) ++ [[V.str ((V.toStr (((strs (parts s ({ data := #[OfNat.ofNat 10] } : ByteArray))).getD (0 + (IntKind.i64.wrap ((↑(parts s ({ data := #[OfNat.ofNat 10] } : ByteArray)).length : Int) - 1)).toNat) []).getD 0 V.any)) ++ ({ data := #[OfNat.ofNat 10] } : ByteArray))]]).length 7 slvW 0 } (alP (txs (List.take ((IntKind.i64.wrap ((↑(parts s ({ data := #[OfNat.ofNat 10] } : ByteArray)).length : Int) - 1)).toNat - 0) (List.drop 0 (strs (parts s ({ data := #[OfNat.ofNat 10] } : ByteArray)))) ++ [[V.str ((V.toStr (((strs (parts s ({ data := #[OfNat.ofNat 10] } : ByteArray))).getD (0 + (IntKind.i64.wrap ((↑(parts s ({ data := #[OfNat.ofNat 10] } : ByteArray)).length : Int) - 1)).toNat) []).getD 0 V.any)) ++ ({ data := #[OfNat.ofNat 10] } : ByteArray))]])) (List.take ((IntKind.i64.wrap ((↑(parts s ({ data := #[OfNat.ofNat 10] } : ByteArray)).length : Int) - 1)).toNat - 0) (List.drop 0 (strs (parts s ({ data := #[OfNat.ofNat 10] } : ByteArray)))) ++ [[V.str ((V.toStr (((strs (parts s ({ data := #[OfNat.ofNat 10] } : ByteArray))).getD (0 + (IntKind.i64.wrap ((↑(parts s ({ data := #[OfNat.ofNat 10] } : ByteArray)).length : Int) - 1)).toNat) []).getD 0 V.any)) ++ ({ data := #[OfNat.ofNat 10] } : ByteArray))]]).length).length (pots (poRows (alP (txs (List.take ((IntKind.i64.wrap ((↑(parts s ({ data := #[OfNat.ofNat 10] } : ByteArray)).length : Int) - 1)).toNat - 0) (List.drop 0 (strs (parts s ({ data := #[OfNat.ofNat 10] } : ByteArray)))) ++ [[V.str ((V.toStr (((strs (parts s ({ data := #[OfNat.ofNat 10] } : ByteArray))).getD (0 + (IntKind.i64.wrap ((↑(parts s ({ data := #[OfNat.ofNat 10] } : ByteArray)).length : Int) - 1)).toNat) []).getD 0 V.any)) ++ ({ data := #[OfNat.ofNat 10] } : ByteArray))]])) (List.take ((IntKind.i64.wrap ((↑(parts s ({ data := #[OfNat.ofNat 10] } : ByteArray)).length : Int) - 1)).toNat - 0) (List.drop 0 (strs (parts s ({ data := #[OfNat.ofNat 10] } : ByteArray)))) ++ [[V.str ((V.toStr (((strs (parts s ({ data := #[OfNat.ofNat 10] } : ByteArray))).getD (0 + (IntKind.i64.wrap ((↑(parts s ({ data := #[OfNat.ofNat 10] } : ByteArray)).length : Int) - 1)).toNat) []).getD 0 V.any)) ++ ({ data := #[OfNat.ofNat 10] } : ByteArray))]]).length)))) ({ data := #[] } : ByteArray)) (Tree.leaf { v := V.tup [V.agg [V.int IntKind.u8 0, V.int IntKind.u8 0, V.int IntKind.u8 0, V.int IntKind.u8 0, V.int IntKind.u8 0, V.int IntKind.u8 0, V.int IntKind.u8 0, V.int IntKind.u8 0, V.int IntKind.i64 0, V.int IntKind.i64 0, V.int IntKind.i64 0, V.int IntKind.i64 0, V.int IntKind.i64 0, V.int IntKind.i64 0, V.int IntKind.i64 0, V.fls, V.nils], V.int IntKind.i64 0, V.int IntKind.i64 170], upd := [], new := [] }) (Tree.leaf { v := V.tup [V.agg [V.int IntKind.u8 (hexV (sAt ((wdB (txs (List.take ((IntKind.i64.wrap ((↑(parts s ({ data := #[OfNat.ofNat 10] } : ByteArray)).length : Int) - 1)).toNat - 0) (List.drop 0 (strs (parts s ({ data := #[OfNat.ofNat 10] } : ByteArray)))) ++ [[V.str ((V.toStr (((strs (parts s ({ data := #[OfNat.ofNat 10] } : ByteArray))).getD (0 + (IntKind.i64.wrap ((↑(parts s ({ data := #[OfNat.ofNat 10] } : ByteArray)).length : Int) - 1)).toNat) []).getD 0 V.any)) ++ ({ data := #[OfNat.ofNat 10] } : ByteArray))]])) (List.take ((IntKind.i64.wrap ((↑(parts s ({ data := #[OfNat.ofNat 10] } : ByteArray)).length : Int) - 1)).toNat - 0) (List.drop 0 (strs (parts s ({ data := #[OfNat.ofNat 10] } : ByteArray)))) ++ [[V.str ((V.toStr (((strs (parts s ({ data := #[OfNat.ofNat 10] } : ByteArray))).getD (0 + (IntKind.i64.wrap ((↑(parts s ({ data := #[OfNat.ofNat 10] } : ByteArray)).length : Int) - 1)).toNat) []).getD 0 V.any)) ++ ({ data := #[OfNat.ofNat 10] } : ByteArray))]]).length 0).getD 1 ByteArray.empty) 0) * 16 + hexV (sAt ((wdB (txs (List.take ((IntKind.i64.wrap ((↑(parts s ({ data := #[OfNat.ofNat 10] } : ByteArray)).length : Int) - 1)).toNat - 0) (List.drop 0 (strs (parts s ({ data := #[OfNat.ofNat 10] } : ByteArray)))) ++ [[V.str ((V.toStr (((strs (parts s ({ data := #[OfNat.ofNat 10] } : ByteArray))).getD (0 + (IntKind.i64.wrap ((↑(parts s ({ data := #[OfNat.ofNat 10] } : ByteArray)).length : Int) - 1)).toNat) []).getD 0 V.any)) ++ ({ data := #[OfNat.ofNat 10] } : ByteArray))]])) (List.take ((IntKind.i64.wrap ((↑(parts s ({ data := #[OfNat.ofNat 10] } : ByteArray)).length : Int) - 1)).toNat - 0) (List.drop 0 (strs (parts s ({ data := #[OfNat.ofNat 10] } : ByteArray)))) ++ [[V.str ((V.toStr (((strs (parts s ({ data := #[OfNat.ofNat 10] } : ByteArray))).getD (0 + (IntKind.i64.wrap ((↑(parts s ({ data := #[OfNat.ofNat 10] } : ByteArray)).length : Int) - 1)).toNat) []).getD 0 V.any)) ++ ({ data := #[OfNat.ofNat 10] } : ByteArray))]]).length 0).getD 1 ByteArray.empty) 1)), V.int IntKind.u8 (hexV (sAt ((wdB (txs (List.take ((IntKind.i64.wrap ((↑(parts s ({ data := #[OfNat.ofNat 10] } : ByteArray)).length : Int) - 1)).toNat - 0) (List.drop 0 (strs (parts s ({ data := #[OfNat.ofNat 10] } : ByteArray)))) ++ [[V.str ((V.toStr (((strs (parts s ({ data := #[OfNat.ofNat 10] } : ByteArray))).getD (0 + (IntKind.i64.wrap ((↑(parts s ({ data := #[OfNat.ofNat 10] } : ByteArray)).length : Int) - 1)).toNat) []).getD 0 V.any)) ++ ({ data := #[OfNat.ofNat 10] } : ByteArray))]])) (List.take ((IntKind.i64.wrap ((↑(parts s ({ data := #[OfNat.ofNat 10] } : ByteArray)).length : Int) - 1)).toNat - 0) (List.drop 0 (strs (parts s ({ data := #[OfNat.ofNat 10] } : ByteArray)))) ++ [[V.str ((V.toStr (((strs (parts s ({ data := #[OfNat.ofNat 10] } : ByteArray))).getD (0 + (IntKind.i64.wrap ((↑(parts s ({ data := #[OfNat.ofNat 10] } : ByteArray)).length : Int) - 1)).toNat) []).getD 0 V.any)) ++ ({ data := #[OfNat.ofNat 10] } : ByteArray))]]).length 0).getD 1 ByteArray.empty) 2) * 16 + hexV (sAt ((wdB (txs (List.take ((IntKind.i64.wrap ((↑(parts s ({ data := #[OfNat.ofNat 10] } : ByteArray)).length : Int) - 1)).toNat - 0) (List.drop 0 (strs (parts s ({ data := #[OfNat.ofNat 10] } : ByteArray)))) ++ [[V.str ((V.toStr (((strs (parts s ({ data := #[OfNat.ofNat 10] } : ByteArray))).getD (0 + (IntKind.i64.wrap ((↑(parts s ({ data := #[OfNat.ofNat 10] } : ByteArray)).length : Int) - 1)).toNat) []).getD 0 V.any)) ++ ({ data := #[OfNat.ofNat 10] } : ByteArray))]])) (List.take ((IntKind.i64.wrap ((↑(parts s ({ data := #[OfNat.ofNat 10] } : ByteArray)).length : Int) - 1)).toNat - 0) (List.drop 0 (strs (parts s ({ data := #[OfNat.ofNat 10] } : ByteArray)))) ++ [[V.str ((V.toStr (((strs (parts s ({ data := #[OfNat.ofNat 10] } : ByteArray))).getD (0 + (IntKind.i64.wrap ((↑(parts s ({ data := #[OfNat.ofNat 10] } : ByteArray)).length : Int) - 1)).toNat) []).getD 0 V.any)) ++ ({ data := #[OfNat.ofNat 10] } : ByteArray))]]).length 0).getD 1 ByteArray.empty) 3)), V.int IntKind.u8 (hexV (sAt ((wdB (txs (List.take ((IntKind.i64.wrap ((↑(parts s ({ data := #[OfNat.ofNat 10] } : ByteArray)).length : Int) - 1)).toNat - 0) (List.drop 0 (strs (parts s ({ data := #[OfNat.ofNat 10] } : ByteArray)))) ++ [[V.str ((V.toStr (((strs (parts s ({ data := #[OfNat.ofNat 10] } : ByteArray))).getD (0 + (IntKind.i64.wrap ((↑(parts s ({ data := #[OfNat.ofNat 10] } : ByteArray)).length : Int) - 1)).toNat) []).getD 0 V.any)) ++ ({ data := #[OfNat.ofNat 10] } : ByteArray))]])) (List.take ((IntKind.i64.wrap ((↑(parts s ({ data := #[OfNat.ofNat 10] } : ByteArray)).length : Int) - 1)).toNat - 0) (List.drop 0 (strs (parts s ({ data := #[OfNat.ofNat 10] } : ByteArray)))) ++ [[V.str ((V.toStr (((strs (parts s ({ data := #[OfNat.ofNat 10] } : ByteArray))).getD (0 + (IntKind.i64.wrap ((↑(parts s ({ data := #[OfNat.ofNat 10] } : ByteArray)).length : Int) - 1)).toNat) []).getD 0 V.any)) ++ ({ data := #[OfNat.ofNat 10] } : ByteArray))]]).length 0).getD 1 ByteArray.empty) 4) * 16 + hexV (sAt ((wdB (txs (List.take ((IntKind.i64.wrap ((↑(parts s ({ data := #[OfNat.ofNat 10] } : ByteArray)).length : Int) - 1)).toNat - 0) (List.drop 0 (strs (parts s ({ data := #[OfNat.ofNat 10] } : ByteArray)))) ++ [[V.str ((V.toStr (((strs (parts s ({ data := #[OfNat.ofNat 10] } : ByteArray))).getD (0 + (IntKind.i64.wrap ((↑(parts s ({ data := #[OfNat.ofNat 10] } : ByteArray)).length : Int) - 1)).toNat) []).getD 0 V.any)) ++ ({ data := #[OfNat.ofNat 10] } : ByteArray))]])) (List.take ((IntKind.i64.wrap ((↑(parts s ({ data := #[OfNat.ofNat 10] } : ByteArray)).length : Int) - 1)).toNat - 0) (List.drop 0 (strs (parts s ({ data := #[OfNat.ofNat 10] } : ByteArray)))) ++ [[V.str ((V.toStr (((strs (parts s ({ data := #[OfNat.ofNat 10] } : ByteArray))).getD (0 + (IntKind.i64.wrap ((↑(parts s ({ data := #[OfNat.ofNat 10] } : ByteArray)).length : Int) - 1)).toNat) []).getD 0 V.any)) ++ ({ data := #[OfNat.ofNat 10] } : ByteArray))]]).length 0).getD 1 ByteArray.empty) 5)), V.int IntKind.u8 (hexV (sAt ((wdB (txs (List.take ((IntKind.i64.wrap ((↑(parts s ({ data := #[OfNat.ofNat 10] } : ByteArray)).length : Int) - 1)).toNat - 0) (List.drop 0 (strs (parts s ({ data := #[OfNat.ofNat 10] } : ByteArray)))) ++ [[V.str ((V.toStr (((strs (parts s ({ data := #[OfNat.ofNat 10] } : ByteArray))).getD (0 + (IntKind.i64.wrap ((↑(parts s ({ data := #[OfNat.ofNat 10] } : ByteArray)).length : Int) - 1)).toNat) []).getD 0 V.any)) ++ ({ data := #[OfNat.ofNat 10] } : ByteArray))]])) (List.take ((IntKind.i64.wrap ((↑(parts s ({ data := #[OfNat.ofNat 10] } : ByteArray)).length : Int) - 1)).toNat - 0) (List.drop 0 (strs (parts s ({ data := #[OfNat.ofNat 10] } : ByteArray)))) ++ [[V.str ((V.toStr (((strs (parts s ({ data := #[OfNat.ofNat 10] } : ByteArray))).getD (0 + (IntKind.i64.wrap ((↑(parts s ({ data := #[OfNat.ofNat 10] } : ByteArray)).length : Int) - 1)).toNat) []).getD 0 V.any)) ++ ({ data := #[OfNat.ofNat 10] } : ByteArray))]]).length 0).getD 1 ByteArray.empty) 6) * 16 + hexV (sAt ((wdB (txs (List.take ((IntKind.i64.wrap ((↑(parts s ({ data := #[OfNat.ofNat 10] } : ByteArray)).length : Int) - 1)).toNat - 0) (List.drop 0 (strs (parts s ({ data := #[OfNat.ofNat 10] } : ByteArray)))) ++ [[V.str ((V.toStr (((strs (parts s ({ data := #[OfNat.ofNat 10] } : ByteArray))).getD (0 + (IntKind.i64.wrap ((↑(parts s ({ data := #[OfNat.ofNat 10] } : ByteArray)).length : Int) - 1)).toNat) []).getD 0 V.any)) ++ ({ data := #[OfNat.ofNat 10] } : ByteArray))]])) (List.take ((IntKind.i64.wrap ((↑(parts s ({ data := #[OfNat.ofNat 10] } : ByteArray)).length : Int) - 1)).toNat - 0) (List.drop 0 (strs (parts s ({ data := #[OfNat.ofNat 10] } : ByteArray)))) ++ [[V.str ((V.toStr (((strs (parts s ({ data := #[OfNat.ofNat 10] } : ByteArray))).getD (0 + (IntKind.i64.wrap ((↑(parts s ({ data := #[OfNat.ofNat 10] } : ByteArray)).length : Int) - 1)).toNat) []).getD 0 V.any)) ++ ({ data := #[OfNat.ofNat 10] } : ByteArray))]]).length 0).getD 1 ByteArray.empty) 7)), V.int IntKind.u8 (hexV (sAt ((wdB (txs (List.take ((IntKind.i64.wrap ((↑(parts s ({ data := #[OfNat.ofNat 10] } : ByteArray)).length : Int) - 1)).toNat - 0) (List.drop 0 (strs (parts s ({ data := #[OfNat.ofNat 10] } : ByteArray)))) ++ [[V.str ((V.toStr (((strs (parts s ({ data := #[OfNat.ofNat 10] } : ByteArray))).getD (0 + (IntKind.i64.wrap ((↑(parts s ({ data := #[OfNat.ofNat 10] } : ByteArray)).length : Int) - 1)).toNat) []).getD 0 V.any)) ++ ({ data := #[OfNat.ofNat 10] } : ByteArray))]])) (List.take ((IntKind.i64.wrap ((↑(parts s ({ data := #[OfNat.ofNat 10] } : ByteArray)).length : Int) - 1)).toNat - 0) (List.drop 0 (strs (parts s ({ data := #[OfNat.ofNat 10] } : ByteArray)))) ++ [[V.str ((V.toStr (((strs (parts s ({ data := #[OfNat.ofNat 10] } : ByteArray))).getD (0 + (IntKind.i64.wrap ((↑(parts s ({ data := #[OfNat.ofNat 10] } : ByteArray)).length : Int) - 1)).toNat) []).getD 0 V.any)) ++ ({ data := #[OfNat.ofNat 10] } : ByteArray))]]).length 0).getD 1 ByteArray.empty) 8) * 16 + hexV (sAt ((wdB (txs (List.take ((IntKind.i64.wrap ((↑(parts s ({ data := #[OfNat.ofNat 10] } : ByteArray)).length : Int) - 1)).toNat - 0) (List.drop 0 (strs (parts s ({ data := #[OfNat.ofNat 10] } : ByteArray)))) ++ [[V.str ((V.toStr (((strs (parts s ({ data := #[OfNat.ofNat 10] } : ByteArray))).getD (0 + (IntKind.i64.wrap ((↑(parts s ({ data := #[OfNat.ofNat 10] } : ByteArray)).length : Int) - 1)).toNat) []).getD 0 V.any)) ++ ({ data := #[OfNat.ofNat 10] } : ByteArray))]])) (List.take ((IntKind.i64.wrap ((↑(parts s ({ data := #[OfNat.ofNat 10] } : ByteArray)).length : Int) - 1)).toNat - 0) (List.drop 0 (strs (parts s ({ data := #[OfNat.ofNat 10] } : ByteArray)))) ++ [[V.str ((V.toStr (((strs (parts s ({ data := #[OfNat.ofNat 10] } : ByteArray))).getD (0 + (IntKind.i64.wrap ((↑(parts s ({ data := #[OfNat.ofNat 10] } : ByteArray)).length : Int) - 1)).toNat) []).getD 0 V.any)) ++ ({ data := #[OfNat.ofNat 10] } : ByteArray))]]).length 0).getD 1 ByteArray.empty) 9)), V.int IntKind.u8 (hexV (sAt ((wdB (txs (List.take ((IntKind.i64.wrap ((↑(parts s ({ data := #[OfNat.ofNat 10] } : ByteArray)).length : Int) - 1)).toNat - 0) (List.drop 0 (strs (parts s ({ data := #[OfNat.ofNat 10] } : ByteArray)))) ++ [[V.str ((V.toStr (((strs (parts s ({ data := #[OfNat.ofNat 10] } : ByteArray))).getD (0 + (IntKind.i64.wrap ((↑(parts s ({ data := #[OfNat.ofNat 10] } : ByteArray)).length : Int) - 1)).toNat) []).getD 0 V.any)) ++ ({ data := #[OfNat.ofNat 10] } : ByteArray))]])) (List.take ((IntKind.i64.wrap ((↑(parts s ({ data := #[OfNat.ofNat 10] } : ByteArray)).length : Int) - 1)).toNat - 0) (List.drop 0 (strs (parts s ({ data := #[OfNat.ofNat 10] } : ByteArray)))) ++ [[V.str ((V.toStr (((strs (parts s ({ data := #[OfNat.ofNat 10] } : ByteArray))).getD (0 + (IntKind.i64.wrap ((↑(parts s ({ data := #[OfNat.ofNat 10] } : ByteArray)).length : Int) - 1)).toNat) []).getD 0 V.any)) ++ ({ data := #[OfNat.ofNat 10] } : ByteArray))]]).length 0).getD 1 ByteArray.empty) 10) * 16 + hexV (sAt ((wdB (txs (List.take ((IntKind.i64.wrap ((↑(parts s ({ data := #[OfNat.ofNat 10] } : ByteArray)).length : Int) - 1)).toNat - 0) (List.drop 0 (strs (parts s ({ data := #[OfNat.ofNat 10] } : ByteArray)))) ++ [[V.str ((V.toStr (((strs (parts s ({ data := #[OfNat.ofNat 10] } : ByteArray))).getD (0 + (IntKind.i64.wrap ((↑(parts s ({ data := #[OfNat.ofNat 10] } : ByteArray)).length : Int) - 1)).toNat) []).getD 0 V.any)) ++ ({ data := #[OfNat.ofNat 10] } : ByteArray))]])) (List.take ((IntKind.i64.wrap ((↑(parts s ({ data := #[OfNat.ofNat 10] } : ByteArray)).length : Int) - 1)).toNat - 0) (List.drop 0 (strs (parts s ({ data := #[OfNat.ofNat 10] } : ByteArray)))) ++ [[V.str ((V.toStr (((strs (parts s ({ data := #[OfNat.ofNat 10] } : ByteArray))).getD (0 + (IntKind.i64.wrap ((↑(parts s ({ data := #[OfNat.ofNat 10] } : ByteArray)).length : Int) - 1)).toNat) []).getD 0 V.any)) ++ ({ data := #[OfNat.ofNat 10] } : ByteArray))]]).length 0).getD 1 ByteArray.empty) 11)), V.int IntKind.u8 (hexV (sAt ((wdB (txs (List.take ((IntKind.i64.wrap ((↑(parts s ({ data := #[OfNat.ofNat 10] } : ByteArray)).length : Int) - 1)).toNat - 0) (List.drop 0 (strs (parts s ({ data := #[OfNat.ofNat 10] } : ByteArray)))) ++ [[V.str ((V.toStr (((strs (parts s ({ data := #[OfNat.ofNat 10] } : ByteArray))).getD (0 + (IntKind.i64.wrap ((↑(parts s ({ data := #[OfNat.ofNat 10] } : ByteArray)).length : Int) - 1)).toNat) []).getD 0 V.any)) ++ ({ data := #[OfNat.ofNat 10] } : ByteArray))]])) (List.take ((IntKind.i64.wrap ((↑(parts s ({ data := #[OfNat.ofNat 10] } : ByteArray)).length : Int) - 1)).toNat - 0) (List.drop 0 (strs (parts s ({ data := #[OfNat.ofNat 10] } : ByteArray)))) ++ [[V.str ((V.toStr (((strs (parts s ({ data := #[OfNat.ofNat 10] } : ByteArray))).getD (0 + (IntKind.i64.wrap ((↑(parts s ({ data := #[OfNat.ofNat 10] } : ByteArray)).length : Int) - 1)).toNat) []).getD 0 V.any)) ++ ({ data := #[OfNat.ofNat 10] } : ByteArray))]]).length 0).getD 1 ByteArray.empty) 12) * 16 + hexV (sAt ((wdB (txs (List.take ((IntKind.i64.wrap ((↑(parts s ({ data := #[OfNat.ofNat 10] } : ByteArray)).length : Int) - 1)).toNat - 0) (List.drop 0 (strs (parts s ({ data := #[OfNat.ofNat 10] } : ByteArray)))) ++ [[V.str ((V.toStr (((strs (parts s ({ data := #[OfNat.ofNat 10] } : ByteArray))).getD (0 + (IntKind.i64.wrap ((↑(parts s ({ data := #[OfNat.ofNat 10] } : ByteArray)).length : Int) - 1)).toNat) []).getD 0 V.any)) ++ ({ data := #[OfNat.ofNat 10] } : ByteArray))]])) (List.take ((IntKind.i64.wrap ((↑(parts s ({ data := #[OfNat.ofNat 10] } : ByteArray)).length : Int) - 1)).toNat - 0) (List.drop 0 (strs (parts s ({ data := #[OfNat.ofNat 10] } : ByteArray)))) ++ [[V.str ((V.toStr (((strs (parts s ({ data := #[OfNat.ofNat 10] } : ByteArray))).getD (0 + (IntKind.i64.wrap ((↑(parts s ({ data := #[OfNat.ofNat 10] } : ByteArray)).length : Int) - 1)).toNat) []).getD 0 V.any)) ++ ({ data := #[OfNat.ofNat 10] } : ByteArray))]]).length 0).getD 1 ByteArray.empty) 13)), V.int IntKind.u8 (hexV (sAt ((wdB (txs (List.take ((IntKind.i64.wrap ((↑(parts s ({ data := #[OfNat.ofNat 10] } : ByteArray)).length : Int) - 1)).toNat - 0) (List.drop 0 (strs (parts s ({ data := #[OfNat.ofNat 10] } : ByteArray)))) ++ [[V.str ((V.toStr (((strs (parts s ({ data := #[OfNat.ofNat 10] } : ByteArray))).getD (0 + (IntKind.i64.wrap ((↑(parts s ({ data := #[OfNat.ofNat 10] } : ByteArray)).length : Int) - 1)).toNat) []).getD 0 V.any)) ++ ({ data := #[OfNat.ofNat 10] } : ByteArray))]])) (List.take ((IntKind.i64.wrap ((↑(parts s ({ data := #[OfNat.ofNat 10] } : ByteArray)).length : Int) - 1)).toNat - 0) (List.drop 0 (strs (parts s ({ data := #[OfNat.ofNat 10] } : ByteArray)))) ++ [[V.str ((V.toStr (((strs (parts s ({ data := #[OfNat.ofNat 10] } : ByteArray))).getD (0 + (IntKind.i64.wrap ((↑(parts s ({ data := #[OfNat.ofNat 10] } : ByteArray)).length : Int) - 1)).toNat) []).getD 0 V.any)) ++ ({ data := #[OfNat.ofNat 10] } : ByteArray))]]).length 0).getD 1 ByteArray.empty) 14) * 16 + hexV (sAt ((wdB (txs (List.take ((IntKind.i64.wrap ((↑(parts s ({ data := #[OfNat.ofNat 10] } : ByteArray)).length : Int) - 1)).toNat - 0) (List.drop 0 (strs (parts s ({ data := #[OfNat.ofNat 10] } : ByteArray)))) ++ [[V.str ((V.toStr (((strs (parts s ({ data := #[OfNat.ofNat 10] } : ByteArray))).getD (0 + (IntKind.i64.wrap ((↑(parts s ({ data := #[OfNat.ofNat 10] } : ByteArray)).length : Int) - 1)).toNat) []).getD 0 V.any)) ++ ({ data := #[OfNat.ofNat 10] } : ByteArray))]])) (List.take ((IntKind.i64.wrap ((↑(parts s ({ data := #[OfNat.ofNat 10] } : ByteArray)).length : Int) - 1)).toNat - 0) (List.drop 0 (strs (parts s ({ data := #[OfNat.ofNat 10] } : ByteArray)))) ++ [[V.str ((V.toStr (((strs (parts s ({ data := #[OfNat.ofNat 10] } : ByteArray))).getD (0 + (IntKind.i64.wrap ((↑(parts s ({ data := #[OfNat.ofNat 10] } : ByteArray)).length : Int) - 1)).toNat) []).getD 0 V.any)) ++ ({ data := #[OfNat.ofNat 10] } : ByteArray))]]).length 0).getD 1 ByteArray.empty) 15)), V.int IntKind.i64 (tkV (txs (List.take ((IntKind.i64.wrap ((↑(parts s ({ data := #[OfNat.ofNat 10] } : ByteArray)).length : Int) - 1)).toNat - 0) (List.drop 0 (strs (parts s ({ data := #[OfNat.ofNat 10] } : ByteArray)))) ++ [[V.str ((V.toStr (((strs (parts s ({ data := #[OfNat.ofNat 10] } : ByteArray))).getD (0 + (IntKind.i64.wrap ((↑(parts s ({ data := #[OfNat.ofNat 10] } : ByteArray)).length : Int) - 1)).toNat) []).getD 0 V.any)) ++ ({ data := #[OfNat.ofNat 10] } : ByteArray))]])) (List.take ((IntKind.i64.wrap ((↑(parts s ({ data := #[OfNat.ofNat 10] } : ByteArray)).length : Int) - 1)).toNat - 0) (List.drop 0 (strs (parts s ({ data := #[OfNat.ofNat 10] } : ByteArray)))) ++ [[V.str ((V.toStr (((strs (parts s ({ data := #[OfNat.ofNat 10] } : ByteArray))).getD (0 + (IntKind.i64.wrap ((↑(parts s ({ data := #[OfNat.ofNat 10] } : ByteArray)).length : Int) - 1)).toNat) []).getD 0 V.any)) ++ ({ data := #[OfNat.ofNat 10] } : ByteArray))]]).length 1 0), V.int IntKind.i64 (tkV (txs (List.take ((IntKind.i64.wrap ((↑(parts s ({ data := #[OfNat.ofNat 10] } : ByteArray)).length : Int) - 1)).toNat - 0) (List.drop 0 (strs (parts s ({ data := #[OfNat.ofNat 10] } : ByteArray)))) ++ [[V.str ((V.toStr (((strs (parts s ({ data := #[OfNat.ofNat 10] } : ByteArray))).getD (0 + (IntKind.i64.wrap ((↑(parts s ({ data := #[OfNat.ofNat 10] } : ByteArray)).length : Int) - 1)).toNat) []).getD 0 V.any)) ++ ({ data := #[OfNat.ofNat 10] } : ByteArray))]])) (List.take ((IntKind.i64.wrap ((↑(parts s ({ data := #[OfNat.ofNat 10] } : ByteArray)).length : Int) - 1)).toNat - 0) (List.drop 0 (strs (parts s ({ data := #[OfNat.ofNat 10] } : ByteArray)))) ++ [[V.str ((V.toStr (((strs (parts s ({ data := #[OfNat.ofNat 10] } : ByteArray))).getD (0 + (IntKind.i64.wrap ((↑(parts s ({ data := #[OfNat.ofNat 10] } : ByteArray)).length : Int) - 1)).toNat) []).getD 0 V.any)) ++ ({ data := #[OfNat.ofNat 10] } : ByteArray))]]).length 2 0), V.int IntKind.i64 (tkV (txs (List.take ((IntKind.i64.wrap ((↑(parts s ({ data := #[OfNat.ofNat 10] } : ByteArray)).length : Int) - 1)).toNat - 0) (List.drop 0 (strs (parts s ({ data := #[OfNat.ofNat 10] } : ByteArray)))) ++ [[V.str ((V.toStr (((strs (parts s ({ data := #[OfNat.ofNat 10] } : ByteArray))).getD (0 + (IntKind.i64.wrap ((↑(parts s ({ data := #[OfNat.ofNat 10] } : ByteArray)).length : Int) - 1)).toNat) []).getD 0 V.any)) ++ ({ data := #[OfNat.ofNat 10] } : ByteArray))]])) (List.take ((IntKind.i64.wrap ((↑(parts s ({ data := #[OfNat.ofNat 10] } : ByteArray)).length : Int) - 1)).toNat - 0) (List.drop 0 (strs (parts s ({ data := #[OfNat.ofNat 10] } : ByteArray)))) ++ [[V.str ((V.toStr (((strs (parts s ({ data := #[OfNat.ofNat 10] } : ByteArray))).getD (0 + (IntKind.i64.wrap ((↑(parts s ({ data := #[OfNat.ofNat 10] } : ByteArray)).length : Int) - 1)).toNat) []).getD 0 V.any)) ++ ({ data := #[OfNat.ofNat 10] } : ByteArray))]]).length 2 1), V.int IntKind.i64 (tkV (txs (List.take ((IntKind.i64.wrap ((↑(parts s ({ data := #[OfNat.ofNat 10] } : ByteArray)).length : Int) - 1)).toNat - 0) (List.drop 0 (strs (parts s ({ data := #[OfNat.ofNat 10] } : ByteArray)))) ++ [[V.str ((V.toStr (((strs (parts s ({ data := #[OfNat.ofNat 10] } : ByteArray))).getD (0 + (IntKind.i64.wrap ((↑(parts s ({ data := #[OfNat.ofNat 10] } : ByteArray)).length : Int) - 1)).toNat) []).getD 0 V.any)) ++ ({ data := #[OfNat.ofNat 10] } : ByteArray))]])) (List.take ((IntKind.i64.wrap ((↑(parts s ({ data := #[OfNat.ofNat 10] } : ByteArray)).length : Int) - 1)).toNat - 0) (List.drop 0 (strs (parts s ({ data := #[OfNat.ofNat 10] } : ByteArray)))) ++ [[V.str ((V.toStr (((strs (parts s ({ data := #[OfNat.ofNat 10] } : ByteArray))).getD (0 + (IntKind.i64.wrap ((↑(parts s ({ data := #[OfNat.ofNat 10] } : ByteArray)).length : Int) - 1)).toNat) []).getD 0 V.any)) ++ ({ data := #[OfNat.ofNat 10] } : ByteArray))]]).length 3 0), V.int IntKind.i64 (tkV (txs (List.take ((IntKind.i64.wrap ((↑(parts s ({ data := #[OfNat.ofNat 10] } : ByteArray)).length : Int) - 1)).toNat - 0) (List.drop 0 (strs (parts s ({ data := #[OfNat.ofNat 10] } : ByteArray)))) ++ [[V.str ((V.toStr (((strs (parts s ({ data := #[OfNat.ofNat 10] } : ByteArray))).getD (0 + (IntKind.i64.wrap ((↑(parts s ({ data := #[OfNat.ofNat 10] } : ByteArray)).length : Int) - 1)).toNat) []).getD 0 V.any)) ++ ({ data := #[OfNat.ofNat 10] } : ByteArray))]])) (List.take ((IntKind.i64.wrap ((↑(parts s ({ data := #[OfNat.ofNat 10] } : ByteArray)).length : Int) - 1)).toNat - 0) (List.drop 0 (strs (parts s ({ data := #[OfNat.ofNat 10] } : ByteArray)))) ++ [[V.str ((V.toStr (((strs (parts s ({ data := #[OfNat.ofNat 10] } : ByteArray))).getD (0 + (IntKind.i64.wrap ((↑(parts s ({ data := #[OfNat.ofNat 10] } : ByteArray)).length : Int) - 1)).toNat) []).getD 0 V.any)) ++ ({ data := #[OfNat.ofNat 10] } : ByteArray))]]).length 4 0), V.int IntKind.i64 (tkV (txs (List.take ((IntKind.i64.wrap ((↑(parts s ({ data := #[OfNat.ofNat 10] } : ByteArray)).length : Int) - 1)).toNat - 0) (List.drop 0 (strs (parts s ({ data := #[OfNat.ofNat 10] } : ByteArray)))) ++ [[V.str ((V.toStr (((strs (parts s ({ data := #[OfNat.ofNat 10] } : ByteArray))).getD (0 + (IntKind.i64.wrap ((↑(parts s ({ data := #[OfNat.ofNat 10] } : ByteArray)).length : Int) - 1)).toNat) []).getD 0 V.any)) ++ ({ data := #[OfNat.ofNat 10] } : ByteArray))]])) (List.take ((IntKind.i64.wrap ((↑(parts s ({ data := #[OfNat.ofNat 10] } : ByteArray)).length : Int) - 1)).toNat - 0) (List.drop 0 (strs (parts s ({ data := #[OfNat.ofNat 10] } : ByteArray)))) ++ [[V.str ((V.toStr (((strs (parts s ({ data := #[OfNat.ofNat 10] } : ByteArray))).getD (0 + (IntKind.i64.wrap ((↑(parts s ({ data := #[OfNat.ofNat 10] } : ByteArray)).length : Int) - 1)).toNat) []).getD 0 V.any)) ++ ({ data := #[OfNat.ofNat 10] } : ByteArray))]]).length 5 0), V.int IntKind.i64 (tkV (txs (List.take ((IntKind.i64.wrap ((↑(parts s ({ data := #[OfNat.ofNat 10] } : ByteArray)).length : Int) - 1)).toNat - 0) (List.drop 0 (strs (parts s ({ data := #[OfNat.ofNat 10] } : ByteArray)))) ++ [[V.str ((V.toStr (((strs (parts s ({ data := #[OfNat.ofNat 10] } : ByteArray))).getD (0 + (IntKind.i64.wrap ((↑(parts s ({ data := #[OfNat.ofNat 10] } : ByteArray)).length : Int) - 1)).toNat) []).getD 0 V.any)) ++ ({ data := #[OfNat.ofNat 10] } : ByteArray))]])) (List.take ((IntKind.i64.wrap ((↑(parts s ({ data := #[OfNat.ofNat 10] } : ByteArray)).length : Int) - 1)).toNat - 0) (List.drop 0 (strs (parts s ({ data := #[OfNat.ofNat 10] } : ByteArray)))) ++ [[V.str ((V.toStr (((strs (parts s ({ data := #[OfNat.ofNat 10] } : ByteArray))).getD (0 + (IntKind.i64.wrap ((↑(parts s ({ data := #[OfNat.ofNat 10] } : ByteArray)).length : Int) - 1)).toNat) []).getD 0 V.any)) ++ ({ data := #[OfNat.ofNat 10] } : ByteArray))]]).length 6 0), V.bool (tkB (txs (List.take ((IntKind.i64.wrap ((↑(parts s ({ data := #[OfNat.ofNat 10] } : ByteArray)).length : Int) - 1)).toNat - 0) (List.drop 0 (strs (parts s ({ data := #[OfNat.ofNat 10] } : ByteArray)))) ++ [[V.str ((V.toStr (((strs (parts s ({ data := #[OfNat.ofNat 10] } : ByteArray))).getD (0 + (IntKind.i64.wrap ((↑(parts s ({ data := #[OfNat.ofNat 10] } : ByteArray)).length : Int) - 1)).toNat) []).getD 0 V.any)) ++ ({ data := #[OfNat.ofNat 10] } : ByteArray))]])) (List.take ((IntKind.i64.wrap ((↑(parts s ({ data := #[OfNat.ofNat 10] } : ByteArray)).length : Int) - 1)).toNat - 0) (List.drop 0 (strs (parts s ({ data := #[OfNat.ofNat 10] } : ByteArray)))) ++ [[V.str ((V.toStr (((strs (parts s ({ data := #[OfNat.ofNat 10] } : ByteArray))).getD (0 + (IntKind.i64.wrap ((↑(parts s ({ data := #[OfNat.ofNat 10] } : ByteArray)).length : Int) - 1)).toNat) []).getD 0 V.any)) ++ ({ data := #[OfNat.ofNat 10] } : ByteArray))]]).length 7 slvW 0), V.sl 0 0 0 6 (alP (txs (List.take ((IntKind.i64.wrap ((↑(parts s ({ data := #[OfNat.ofNat 10] } : ByteArray)).length : Int) - 1)).toNat - 0) (List.drop 0 (strs (parts s ({ data := #[OfNat.ofNat 10] } : ByteArray)))) ++ [[V.str ((V.toStr (((strs (parts s ({ data := #[OfNat.ofNat 10] } : ByteArray))).getD (0 + (IntKind.i64.wrap ((↑(parts s ({ data := #[OfNat.ofNat 10] } : ByteArray)).length : Int) - 1)).toNat) []).getD 0 V.any)) ++ ({ data := #[OfNat.ofNat 10] } : ByteArray))]])) (List.take ((IntKind.i64.wrap ((↑(parts s ({ data := #[OfNat.ofNat 10] } : ByteArray)).length : Int) - 1)).toNat - 0) (List.drop 0 (strs (parts s ({ data := #[OfNat.ofNat 10] } : ByteArray)))) ++ [[V.str ((V.toStr (((strs (parts s ({ data := #[OfNat.ofNat 10] } : ByteArray))).getD (0 + (IntKind.i64.wrap ((↑(parts s ({ data := #[OfNat.ofNat 10] } : ByteArray)).length : Int) - 1)).toNat) []).getD 0 V.any)) ++ ({ data := #[OfNat.ofNat 10] } : ByteArray))]]).length).length none], V.int IntKind.i64 0, V.int IntKind.i64 0], upd := [], new := [Body.rows [K.int IntKind.i64, K.int IntKind.i64, K.int IntKind.i64, K.int IntKind.i64, K.int IntKind.i64, K.int IntKind.i64] (poRows (alP (txs (List.take ((IntKind.i64.wrap ((↑(parts s ({ data := #[OfNat.ofNat 10] } : ByteArray)).length : Int) - 1)).toNat - 0) (List.drop 0 (strs (parts s ({ data := #[OfNat.ofNat 10] } : ByteArray)))) ++ [[V.str ((V.toStr (((strs (parts s ({ data := #[OfNat.ofNat 10] } : ByteArray))).getD (0 + (IntKind.i64.wrap ((↑(parts s ({ data := #[OfNat.ofNat 10] } : ByteArray)).length : Int) - 1)).toNat) []).getD 0 V.any)) ++ ({ data := #[OfNat.ofNat 10] } : ByteArray))]])) (List.take ((IntKind.i64.wrap ((↑(parts s ({ data := #[OfNat.ofNat 10] } : ByteArray)).length : Int) - 1)).toNat - 0) (List.drop 0 (strs (parts s ({ data := #[OfNat.ofNat 10] } : ByteArray)))) ++ [[V.str ((V.toStr (((strs (parts s ({ data := #[OfNat.ofNat 10] } : ByteArray))).getD (0 + (IntKind.i64.wrap ((↑(parts s ({ data := #[OfNat.ofNat 10] } : ByteArray)).length : Int) - 1)).toNat) []).getD 0 V.any)) ++ ({ data := #[OfNat.ofNat 10] } : ByteArray))]]).length))] })) Tree.fail)) (Tree.leaf { v := V.tup [V.agg [V.int IntKind.u8 0, V.int IntKind.u8 0, V.int IntKind.u8 0, V.int IntKind.u8 0, V.int IntKind.u8 0, V.int IntKind.u8 0, V.int IntKind.u8 0, V.int IntKind.u8 0, V.int IntKind.i64 0, V.int IntKind.i64 0, V.int IntKind.i64 0, V.int IntKind.i64 0, V.int IntKind.i64 0, V.int IntKind.i64 0, V.int IntKind.i64 0, V.fls, V.nils], V.int IntKind.i64 (IntKind.i64.wrap (alAt (txs (List.take ((IntKind.i64.wrap ((↑(parts s ({ data := #[OfNat.ofNat 10] } : ByteArray)).length : Int) - 1)).toNat - 0) (List.drop 0 (strs (parts s ({ data := #[OfNat.ofNat 10] } : ByteArray)))) ++ [[V.str ((V.toStr (((strs (parts s ({ data := #[OfNat.ofNat 10] } : ByteArray))).getD (0 + (IntKind.i64.wrap ((↑(parts s ({ data := #[OfNat.ofNat 10] } : ByteArray)).length : Int) - 1)).toNat) []).getD 0 V.any)) ++ ({ data := #[OfNat.ofNat 10] } : ByteArray))]])) (List.take ((IntKind.i64.wrap ((↑(parts s ({ data := #[OfNat.ofNat 10] } : ByteArray)).length : Int) - 1)).toNat - 0) (List.drop 0 (strs (parts s ({ data := #[OfNat.ofNat 10] } : ByteArray)))) ++ [[V.str ((V.toStr (((strs (parts s ({ data := #[OfNat.ofNat 10] } : ByteArray))).getD (0 + (IntKind.i64.wrap ((↑(parts s ({ data := #[OfNat.ofNat 10] } : ByteArray)).length : Int) - 1)).toNat) []).getD 0 V.any)) ++ ({ data := #[OfNat.ofNat 10] } : ByteArray))]]).length + 1)), V.int IntKind.i64 170], upd := [], new := [] })) Tree.fail) Tree.fail) Tree.fail) Tree.fail) Tree.fail) Tree.fail) (Tree.ite (gdL (txs (strs (parts s ({ data := #[OfNat.ofNat 10] } : ByteArray)))) ((IntKind.i64.wrap ((↑(parts s ({ data := #[OfNat.ofNat 10] } : ByteArray)).length : Int) - 1)).toNat - 0) 0) (Tree.ite (alB (txs (strs (parts s ({ data := #[OfNat.ofNat 10] } : ByteArray)))) ((IntKind.i64.wrap ((↑(parts s ({ data := #[OfNat.ofNat 10] } : ByteArray)).length : Int) - 1)).toNat - 0)) (Tree.ite (!decide (alAt (txs (strs (parts s ({ data := #[OfNat.ofNat 10] } : ByteArray)))) ((IntKind.i64.wrap ((↑(parts s ({ data := #[OfNat.ofNat 10] } : ByteArray)).length : Int) - 1)).toNat - 0) = (↑((IntKind.i64.wrap ((↑(parts s ({ data := #[OfNat.ofNat 10] } : ByteArray)).length : Int) - 1)).toNat - 0) : Int))) (Tree.leaf { v := V.tup [V.agg [V.int IntKind.u8 0, V.int IntKind.u8 0, V.int IntKind.u8 0, V.int IntKind.u8 0, V.int IntKind.u8 0, V.int IntKind.u8 0, V.int IntKind.u8 0, V.int IntKind.u8 0, V.int IntKind.i64 0, V.int IntKind.i64 0, V.int IntKind.i64 0, V.int IntKind.i64 0, V.int IntKind.i64 0, V.int IntKind.i64 0, V.int IntKind.i64 0, V.fls, V.nils], V.int IntKind.i64 (IntKind.i64.wrap (alAt (txs (strs (parts s ({ data := #[OfNat.ofNat 10] } : ByteArray)))) ((IntKind.i64.wrap ((↑(parts s ({ data := #[OfNat.ofNat 10] } : ByteArray)).length : Int) - 1)).toNat - 0) + 1)), V.int IntKind.i64 170], upd := [], new := [] }) (Tree.ite (decide ((alP (txs (strs (parts s ({ data := #[OfNat.ofNat 10] } : ByteArray)))) ((IntKind.i64.wrap ((↑(parts s ({ data := #[OfNat.ofNat 10] } : ByteArray)).length : Int) - 1)).toNat - 0)).length = (poRows (alP (txs (strs (parts s ({ data := #[OfNat.ofNat 10] } : ByteArray)))) ((IntKind.i64.wrap ((↑(parts s ({ data := #[OfNat.ofNat 10] } : ByteArray)).length : Int) - 1)).toNat - 0))).length)) (Tree.ite (!sEq (chkW { id := { b0 := hexV (sAt ((wdB (txs (strs (parts s ({ data := #[OfNat.ofNat 10] } : ByteArray)))) ((IntKind.i64.wrap ((↑(parts s ({ data := #[OfNat.ofNat 10] } : ByteArray)).length : Int) - 1)).toNat - 0) 0).getD 1 ByteArray.empty) 0) * 16 + hexV (sAt ((wdB (txs (strs (parts s ({ data := #[OfNat.ofNat 10] } : ByteArray)))) ((IntKind.i64.wrap ((↑(parts s ({ data := #[OfNat.ofNat 10] } : ByteArray)).length : Int) - 1)).toNat - 0) 0).getD 1 ByteArray.empty) 1), b1 := hexV (sAt ((wdB (txs (strs (parts s ({ data := #[OfNat.ofNat 10] } : ByteArray)))) ((IntKind.i64.wrap ((↑(parts s ({ data := #[OfNat.ofNat 10] } : ByteArray)).length : Int) - 1)).toNat - 0) 0).getD 1 ByteArray.empty) 2) * 16 + hexV (sAt ((wdB (txs (strs (parts s ({ data := #[OfNat.ofNat 10] } : ByteArray)))) ((IntKind.i64.wrap ((↑(parts s ({ data := #[OfNat.ofNat 10] } : ByteArray)).length : Int) - 1)).toNat - 0) 0).getD 1 ByteArray.empty) 3), b2 := hexV (sAt ((wdB (txs (strs (parts s ({ data := #[OfNat.ofNat 10] } : ByteArray)))) ((IntKind.i64.wrap ((↑(parts s ({ data := #[OfNat.ofNat 10] } : ByteArray)).length : Int) - 1)).toNat - 0) 0).getD 1 ByteArray.empty) 4) * 16 + hexV (sAt ((wdB (txs (strs (parts s ({ data := #[OfNat.ofNat 10] } : ByteArray)))) ((IntKind.i64.wrap ((↑(parts s ({ data := #[OfNat.ofNat 10] } : ByteArray)).length : Int) - 1)).toNat - 0) 0).getD 1 ByteArray.empty) 5), b3 := hexV (sAt ((wdB (txs (strs (parts s ({ data := #[OfNat.ofNat 10] } : ByteArray)))) ((IntKind.i64.wrap ((↑(parts s ({ data := #[OfNat.ofNat 10] } : ByteArray)).length : Int) - 1)).toNat - 0) 0).getD 1 ByteArray.empty) 6) * 16 + hexV (sAt ((wdB (txs (strs (parts s ({ data := #[OfNat.ofNat 10] } : ByteArray)))) ((IntKind.i64.wrap ((↑(parts s ({ data := #[OfNat.ofNat 10] } : ByteArray)).length : Int) - 1)).toNat - 0) 0).getD 1 ByteArray.empty) 7), b4 := hexV (sAt ((wdB (txs (strs (parts s ({ data := #[OfNat.ofNat 10] } : ByteArray)))) ((IntKind.i64.wrap ((↑(parts s ({ data := #[OfNat.ofNat 10] } : ByteArray)).length : Int) - 1)).toNat - 0) 0).getD 1 ByteArray.empty) 8) * 16 + hexV (sAt ((wdB (txs (strs (parts s ({ data := #[OfNat.ofNat 10] } : ByteArray)))) ((IntKind.i64.wrap ((↑(parts s ({ data := #[OfNat.ofNat 10] } : ByteArray)).length : Int) - 1)).toNat - 0) 0).getD 1 ByteArray.empty) 9), b5 := hexV (sAt ((wdB (txs (strs (parts s ({ data := #[OfNat.ofNat 10] } : ByteArray)))) ((IntKind.i64.wrap ((↑(parts s ({ data := #[OfNat.ofNat 10] } : ByteArray)).length : Int) - 1)).toNat - 0) 0).getD 1 ByteArray.empty) 10) * 16 + hexV (sAt ((wdB (txs (strs (parts s ({ data := #[OfNat.ofNat 10] } : ByteArray)))) ((IntKind.i64.wrap ((↑(parts s ({ data := #[OfNat.ofNat 10] } : ByteArray)).length : Int) - 1)).toNat - 0) 0).getD 1 ByteArray.empty) 11), b6 := hexV (sAt ((wdB (txs (strs (parts s ({ data := #[OfNat.ofNat 10] } : ByteArray)))) ((IntKind.i64.wrap ((↑(parts s ({ data := #[OfNat.ofNat 10] } : ByteArray)).length : Int) - 1)).toNat - 0) 0).getD 1 ByteArray.empty) 12) * 16 + hexV (sAt ((wdB (txs (strs (parts s ({ data := #[OfNat.ofNat 10] } : ByteArray)))) ((IntKind.i64.wrap ((↑(parts s ({ data := #[OfNat.ofNat 10] } : ByteArray)).length : Int) - 1)).toNat - 0) 0).getD 1 ByteArray.empty) 13), b7 := hexV (sAt ((wdB (txs (strs (parts s ({ data := #[OfNat.ofNat 10] } : ByteArray)))) ((IntKind.i64.wrap ((↑(parts s ({ data := #[OfNat.ofNat 10] } : ByteArray)).length : Int) - 1)).toNat - 0) 0).getD 1 ByteArray.empty) 14) * 16 + hexV (sAt ((wdB (txs (strs (parts s ({ data := #[OfNat.ofNat 10] } : ByteArray)))) ((IntKind.i64.wrap ((↑(parts s ({ data := #[OfNat.ofNat 10] } : ByteArray)).length : Int) - 1)).toNat - 0) 0).getD 1 ByteArray.empty) 15) }, dom := tkV (txs (strs (parts s ({ data := #[OfNat.ofNat 10] } : ByteArray)))) ((IntKind.i64.wrap ((↑(parts s ({ data := #[OfNat.ofNat 10] } : ByteArray)).length : Int) - 1)).toNat - 0) 1 0, p1 := tkV (txs (strs (parts s ({ data := #[OfNat.ofNat 10] } : ByteArray)))) ((IntKind.i64.wrap ((↑(parts s ({ data := #[OfNat.ofNat 10] } : ByteArray)).length : Int) - 1)).toNat - 0) 2 0, p2 := tkV (txs (strs (parts s ({ data := #[OfNat.ofNat 10] } : ByteArray)))) ((IntKind.i64.wrap ((↑(parts s ({ data := #[OfNat.ofNat 10] } : ByteArray)).length : Int) - 1)).toNat - 0) 2 1, q := { cl := tkV (txs (strs (parts s ({ data := #[OfNat.ofNat 10] } : ByteArray)))) ((IntKind.i64.wrap ((↑(parts s ({ data := #[OfNat.ofNat 10] } : ByteArray)).length : Int) - 1)).toNat - 0) 3 0, ac := tkV (txs (strs (parts s ({ data := #[OfNat.ofNat 10] } : ByteArray)))) ((IntKind.i64.wrap ((↑(parts s ({ data := #[OfNat.ofNat 10] } : ByteArray)).length : Int) - 1)).toNat - 0) 4 0, va := tkV (txs (strs (parts s ({ data := #[OfNat.ofNat 10] } : ByteArray)))) ((IntKind.i64.wrap ((↑(parts s ({ data := #[OfNat.ofNat 10] } : ByteArray)).length : Int) - 1)).toNat - 0) 5 0 }, ppb := tkV (txs (strs (parts s ({ data := #[OfNat.ofNat 10] } : ByteArray)))) ((IntKind.i64.wrap ((↑(parts s ({ data := #[OfNat.ofNat 10] } : ByteArray)).length : Int) - 1)).toNat - 0) 6 0, sl := tkB (txs (strs (parts s ({ data := #[OfNat.ofNat 10] } : ByteArray)))) ((IntKind.i64.wrap ((↑(parts s ({ data := #[OfNat.ofNat 10] } : ByteArray)).length : Int) - 1)).toNat - 0) 7 slvW 0 } (alP (txs (strs (parts s ({ data := #[OfNat.ofNat 10] } : ByteArray)))) ((IntKind.i64.wrap ((↑(parts s ({ data := #[OfNat.ofNat 10] } : ByteArray)).length : Int) - 1)).toNat - 0)).length (pots (poRows (alP (txs (strs (parts s ({ data := #[OfNat.ofNat 10] } : ByteArray)))) ((IntKind.i64.wrap ((↑(parts s ({ data := #[OfNat.ofNat 10] } : ByteArray)).length : Int) - 1)).toNat - 0))))) ({ data := #[] } : ByteArray)) (Tree.leaf { v := V.tup [V.agg [V.int IntKind.u8 0, V.int IntKind.u8 0, V.int IntKind.u8 0, V.int IntKind.u8 0, V.int IntKind.u8 0, V.int IntKind.u8 0, V.int IntKind.u8 0, V.int IntKind.u8 0, V.int IntKind.i64 0, V.int IntKind.i64 0, V.int IntKind.i64 0, V.int IntKind.i64 0, V.int IntKind.i64 0, V.int IntKind.i64 0, V.int IntKind.i64 0, V.fls, V.nils], V.int IntKind.i64 0, V.int IntKind.i64 170], upd := [], new := [] }) (Tree.leaf { v := V.tup [V.agg [V.int IntKind.u8 (hexV (sAt ((wdB (txs (strs (parts s ({ data := #[OfNat.ofNat 10] } : ByteArray)))) ((IntKind.i64.wrap ((↑(parts s ({ data := #[OfNat.ofNat 10] } : ByteArray)).length : Int) - 1)).toNat - 0) 0).getD 1 ByteArray.empty) 0) * 16 + hexV (sAt ((wdB (txs (strs (parts s ({ data := #[OfNat.ofNat 10] } : ByteArray)))) ((IntKind.i64.wrap ((↑(parts s ({ data := #[OfNat.ofNat 10] } : ByteArray)).length : Int) - 1)).toNat - 0) 0).getD 1 ByteArray.empty) 1)), V.int IntKind.u8 (hexV (sAt ((wdB (txs (strs (parts s ({ data := #[OfNat.ofNat 10] } : ByteArray)))) ((IntKind.i64.wrap ((↑(parts s ({ data := #[OfNat.ofNat 10] } : ByteArray)).length : Int) - 1)).toNat - 0) 0).getD 1 ByteArray.empty) 2) * 16 + hexV (sAt ((wdB (txs (strs (parts s ({ data := #[OfNat.ofNat 10] } : ByteArray)))) ((IntKind.i64.wrap ((↑(parts s ({ data := #[OfNat.ofNat 10] } : ByteArray)).length : Int) - 1)).toNat - 0) 0).getD 1 ByteArray.empty) 3)), V.int IntKind.u8 (hexV (sAt ((wdB (txs (strs (parts s ({ data := #[OfNat.ofNat 10] } : ByteArray)))) ((IntKind.i64.wrap ((↑(parts s ({ data := #[OfNat.ofNat 10] } : ByteArray)).length : Int) - 1)).toNat - 0) 0).getD 1 ByteArray.empty) 4) * 16 + hexV (sAt ((wdB (txs (strs (parts s ({ data := #[OfNat.ofNat 10] } : ByteArray)))) ((IntKind.i64.wrap ((↑(parts s ({ data := #[OfNat.ofNat 10] } : ByteArray)).length : Int) - 1)).toNat - 0) 0).getD 1 ByteArray.empty) 5)), V.int IntKind.u8 (hexV (sAt ((wdB (txs (strs (parts s ({ data := #[OfNat.ofNat 10] } : ByteArray)))) ((IntKind.i64.wrap ((↑(parts s ({ data := #[OfNat.ofNat 10] } : ByteArray)).length : Int) - 1)).toNat - 0) 0).getD 1 ByteArray.empty) 6) * 16 + hexV (sAt ((wdB (txs (strs (parts s ({ data := #[OfNat.ofNat 10] } : ByteArray)))) ((IntKind.i64.wrap ((↑(parts s ({ data := #[OfNat.ofNat 10] } : ByteArray)).length : Int) - 1)).toNat - 0) 0).getD 1 ByteArray.empty) 7)), V.int IntKind.u8 (hexV (sAt ((wdB (txs (strs (parts s ({ data := #[OfNat.ofNat 10] } : ByteArray)))) ((IntKind.i64.wrap ((↑(parts s ({ data := #[OfNat.ofNat 10] } : ByteArray)).length : Int) - 1)).toNat - 0) 0).getD 1 ByteArray.empty) 8) * 16 + hexV (sAt ((wdB (txs (strs (parts s ({ data := #[OfNat.ofNat 10] } : ByteArray)))) ((IntKind.i64.wrap ((↑(parts s ({ data := #[OfNat.ofNat 10] } : ByteArray)).length : Int) - 1)).toNat - 0) 0).getD 1 ByteArray.empty) 9)), V.int IntKind.u8 (hexV (sAt ((wdB (txs (strs (parts s ({ data := #[OfNat.ofNat 10] } : ByteArray)))) ((IntKind.i64.wrap ((↑(parts s ({ data := #[OfNat.ofNat 10] } : ByteArray)).length : Int) - 1)).toNat - 0) 0).getD 1 ByteArray.empty) 10) * 16 + hexV (sAt ((wdB (txs (strs (parts s ({ data := #[OfNat.ofNat 10] } : ByteArray)))) ((IntKind.i64.wrap ((↑(parts s ({ data := #[OfNat.ofNat 10] } : ByteArray)).length : Int) - 1)).toNat - 0) 0).getD 1 ByteArray.empty) 11)), V.int IntKind.u8 (hexV (sAt ((wdB (txs (strs (parts s ({ data := #[OfNat.ofNat 10] } : ByteArray)))) ((IntKind.i64.wrap ((↑(parts s ({ data := #[OfNat.ofNat 10] } : ByteArray)).length : Int) - 1)).toNat - 0) 0).getD 1 ByteArray.empty) 12) * 16 + hexV (sAt ((wdB (txs (strs (parts s ({ data := #[OfNat.ofNat 10] } : ByteArray)))) ((IntKind.i64.wrap ((↑(parts s ({ data := #[OfNat.ofNat 10] } : ByteArray)).length : Int) - 1)).toNat - 0) 0).getD 1 ByteArray.empty) 13)), V.int IntKind.u8 (hexV (sAt ((wdB (txs (strs (parts s ({ data := #[OfNat.ofNat 10] } : ByteArray)))) ((IntKind.i64.wrap ((↑(parts s ({ data := #[OfNat.ofNat 10] } : ByteArray)).length : Int) - 1)).toNat - 0) 0).getD 1 ByteArray.empty) 14) * 16 + hexV (sAt ((wdB (txs (strs (parts s ({ data := #[OfNat.ofNat 10] } : ByteArray)))) ((IntKind.i64.wrap ((↑(parts s ({ data := #[OfNat.ofNat 10] } : ByteArray)).length : Int) - 1)).toNat - 0) 0).getD 1 ByteArray.empty) 15)), V.int IntKind.i64 (tkV (txs (strs (parts s ({ data := #[OfNat.ofNat 10] } : ByteArray)))) ((IntKind.i64.wrap ((↑(parts s ({ data := #[OfNat.ofNat 10] } : ByteArray)).length : Int) - 1)).toNat - 0) 1 0), V.int IntKind.i64 (tkV (txs (strs (parts s ({ data := #[OfNat.ofNat 10] } : ByteArray)))) ((IntKind.i64.wrap ((↑(parts s ({ data := #[OfNat.ofNat 10] } : ByteArray)).length : Int) - 1)).toNat - 0) 2 0), V.int IntKind.i64 (tkV (txs (strs (parts s ({ data := #[OfNat.ofNat 10] } : ByteArray)))) ((IntKind.i64.wrap ((↑(parts s ({ data := #[OfNat.ofNat 10] } : ByteArray)).length : Int) - 1)).toNat - 0) 2 1), V.int IntKind.i64 (tkV (txs (strs (parts s ({ data := #[OfNat.ofNat 10] } : ByteArray)))) ((IntKind.i64.wrap ((↑(parts s ({ data := #[OfNat.ofNat 10] } : ByteArray)).length : Int) - 1)).toNat - 0) 3 0), V.int IntKind.i64 (tkV (txs (strs (parts s ({ data := #[OfNat.ofNat 10] } : ByteArray)))) ((IntKind.i64.wrap ((↑(parts s ({ data := #[OfNat.ofNat 10] } : ByteArray)).length : Int) - 1)).toNat - 0) 4 0), V.int IntKind.i64 (tkV (txs (strs (parts s ({ data := #[OfNat.ofNat 10] } : ByteArray)))) ((IntKind.i64.wrap ((↑(parts s ({ data := #[OfNat.ofNat 10] } : ByteArray)).length : Int) - 1)).toNat - 0) 5 0), V.int IntKind.i64 (tkV (txs (strs (parts s ({ data := #[OfNat.ofNat 10] } : ByteArray)))) ((IntKind.i64.wrap ((↑(parts s ({ data := #[OfNat.ofNat 10] } : ByteArray)).length : Int) - 1)).toNat - 0) 6 0), V.bool (tkB (txs (strs (parts s ({ data := #[OfNat.ofNat 10] } : ByteArray)))) ((IntKind.i64.wrap ((↑(parts s ({ data := #[OfNat.ofNat 10] } : ByteArray)).length : Int) - 1)).toNat - 0) 7 slvW 0), V.sl 0 0 0 6 (alP (txs (strs (parts s ({ data := #[OfNat.ofNat 10] } : ByteArray)))) ((IntKind.i64.wrap ((↑(parts s ({ data := #[OfNat.ofNat 10] } : ByteArray)).length : Int) - 1)).toNat - 0)).length none], V.int IntKind.i64 0, V.int IntKind.i64 0], upd := [], new := [Body.rows [K.int IntKind.i64, K.int IntKind.i64, K.int IntKind.i64, K.int IntKind.i64, K.int IntKind.i64, K.int IntKind.i64] (poRows (alP (txs (strs (parts s ({ data := #[OfNat.ofNat 10] } : ByteArray)))) ((IntKind.i64.wrap ((↑(parts s ({ data := #[OfNat.ofNat 10] } : ByteArray)).length : Int) - 1)).toNat - 0)))] })) Tree.fail)) (Tree.leaf { v := V.tup [V.agg [V.int IntKind.u8 0, V.int IntKind.u8 0, V.int IntKind.u8 0, V.int IntKind.u8 0, V.int IntKind.u8 0, V.int IntKind.u8 0, V.int IntKind.u8 0, V.int IntKind.u8 0, V.int IntKind.i64 0, V.int IntKind.i64 0, V.int IntKind.i64 0, V.int IntKind.i64 0, V.int IntKind.i64 0, V.int IntKind.i64 0, V.int IntKind.i64 0, V.fls, V.nils], V.int IntKind.i64 (IntKind.i64.wrap (alAt (txs (strs (parts s ({ data := #[OfNat.ofNat 10] } : ByteArray)))) ((IntKind.i64.wrap ((↑(parts s ({ data := #[OfNat.ofNat 10] } : ByteArray)).length : Int) - 1)).toNat - 0) + 1)), V.int IntKind.i64 170], upd := [], new := [] })) Tree.fail)) Tree.fail) Tree.fail) Tree.fail) Tree.fail) from by kernel_rfl]
    rw [show ({ data := #[OfNat.ofNat 10] } : ByteArray) = nlW from rfl]
    have hsz : ∀ i, ((parts s nlW).getD i .empty).size ≤ s.size := by
      intro i
      rw [List.getD_eq_getElem?_getD]
      cases hh : (parts s nlW)[i]? with
      | none => exact Nat.zero_le _
      | some p => exact splitB_size _ _ _ _ (List.mem_of_getElem? hh)
    obtain ⟨m, hl⟩ : ∃ m, (parts s nlW).length = m + 1 := ⟨_, parts_len (by decide)⟩
    have hlst : (lsW s).size ≤ s.size := hsz _
    have hL : lsW s = (parts s nlW).getD m .empty := by unfold lsW; rw [hl]; rfl
    have hm' : m ≤ 1000000 := by
      have hN : lnN s ≤ 1000000 := by
        simp only [gdL, Bool.and_eq_true, decide_eq_true_eq] at hg
        exact hg.1.2
      unfold lnN at hN
      rw [hl] at hN
      cases hh : sEq (lsW s) ⟨#[]⟩ with
      | true => rw [hh] at hN; simp only [cond_true] at hN; omega
      | false => rw [hh] at hN; simp only [cond_false] at hN; omega
    have hX : IntKind.i64.wrap (((m + 1 : Nat) : Int) - 1) = ((m : Nat) : Int) := by rw [wrap64_id (by omega) (by omega)]; omega
    simp only [hl, hX, Int.toNat_natCast, Nat.sub_zero, Nat.zero_add, List.drop_zero, strs_at, strs_len, ← hL]
    rw [decide_eq_true (show s.size < 4294967281 by omega), decide_eq_true (show (0 : Int) ≤ (m : Int) by omega), decide_eq_true (show (m : Int) ≤ ((m + 1 : Nat) : Int) by omega), decide_eq_true (show (m : Int) < ((m + 1 : Nat) : Int) by omega), decide_eq_true (show m < m + 1 by omega)]
    have hA0 := alAt_le (lnL s) (lnN s)
    cases hw : sEq (lsW s) ⟨#[]⟩ with
    | true =>
      have eL : lnL s = parts s nlW := by unfold lnL; rw [hw]; rfl
      have eN : lnN s = m := by unfold lnN; rw [hw, hl]; rfl
      rw [eL, eN] at hg hA0
      simp only [txs_strs, hw, hg, poRows_dec, pots_rows, wrap64_id (n := alAt (parts s nlW) m + 1) (by omega) (by omega)]
      simp only [psA, psK, psT, psC, psP, eL, eN] at h
      generalize hLL : parts s nlW = LL at h hA0 ⊢
      cases hB : alB LL m with
      | false =>
        rw [hB, Bool.false_and, denI, denLf] at h; cases h
        rfl
      | true =>
        cases hE : decide (alAt LL m = ((m : Nat) : Int)) with
        | false =>
          rw [hB, hE, Bool.true_and, denI, denLf] at h; cases h
          rfl
        | true =>
          rw [hB, hE, Bool.true_and, denI] at h
          refine Eq.trans (b := (Tree.ite (!sEq (chkW (alC LL m) (alP LL m).length (alP LL m)) wNone) (Tree.leaf ⟨.tup [.agg (cfV Cfh.zero .nils), .int .i64 0, .int .i64 170], [], []⟩) (Tree.leaf ⟨.tup [.agg (cfV (alC LL m) (.sl 0 0 0 6 (alP LL m).length none)), .int .i64 0, .int .i64 0], [], [.rows [.int .i64, .int .i64, .int .i64, .int .i64, .int .i64, .int .i64] (poRows (alP LL m))]⟩)).denN) (by simp only [denN_ite, Bool.and_true, Bool.true_and, Bool.not_false, Bool.not_true, if_true]; unfold alC kiC rdC wNone; rfl) ?_
          cases hK : sEq (chkW (alC LL m) (alP LL m).length (alP LL m)) wNone with
          | false => rw [hK] at h; cases h; rfl
          | true => rw [hK] at h; cases h; rfl
    | false =>
      have eL : lnL s = (parts s nlW).take m ++ [lsW s ++ nlW] := by unfold lnL; rw [hw, hl]; rfl
      have eN : lnN s = m + 1 := by unfold lnN; rw [hw, hl]; rfl
      rw [eL, eN] at hg hA0
      have hT : List.take m (strs (parts s nlW)) ++ [[V.str (lsW s ++ nlW)]] = strs ((parts s nlW).take m ++ [lsW s ++ nlW]) := by simp [strs, List.map_take]
      have hTl : ((parts s nlW).take m ++ [lsW s ++ nlW]).length = m + 1 := by simp; omega
      simp only [hT, txs_strs, strs_len, hTl, hw, hg, poRows_dec, pots_rows, wrap64_id (n := alAt ((parts s nlW).take m ++ [lsW s ++ nlW]) (m + 1) + 1) (by omega) (by omega)]
      simp only [psA, psK, psT, psC, psP, eL, eN] at h
      rw [decide_eq_true (show (lsW s).size + 1 ≤ 9223372036854775807 by omega), decide_eq_true (show m ≤ m + 1 by omega), decide_eq_true (show (m + 1) * 16 ≤ 140737488355328 by omega)]
      clear hl hX hTl hT eN eL hg
      obtain ⟨LL, hLL⟩ : ∃ LL, LL = (parts s nlW).take m ++ [lsW s ++ nlW] := ⟨_, rfl⟩
      obtain ⟨M, hM⟩ : ∃ M, M = m + 1 := ⟨_, rfl⟩
      simp only [← hLL, ← hM] at h hA0 ⊢
      clear hLL hM
      cases hB : alB LL M with
      | false =>
        rw [hB, Bool.false_and, denI, denLf] at h; cases h
        rfl
      | true =>
        cases hE : decide (alAt LL M = ((M : Nat) : Int)) with
        | false =>
          rw [hB, hE, Bool.true_and, denI, denLf] at h; cases h
          rfl
        | true =>
          rw [hB, hE, Bool.true_and, denI] at h
          refine Eq.trans (b := (Tree.ite (!sEq (chkW (alC LL M) (alP LL M).length (alP LL M)) wNone) (Tree.leaf ⟨.tup [.agg (cfV Cfh.zero .nils), .int .i64 0, .int .i64 170], [], []⟩) (Tree.leaf ⟨.tup [.agg (cfV (alC LL M) (.sl 0 0 0 6 (alP LL M).length none)), .int .i64 0, .int .i64 0], [], [.rows [.int .i64, .int .i64, .int .i64, .int .i64, .int .i64, .int .i64] (poRows (alP LL M))]⟩)).denN) (by simp only [denN_ite, Bool.and_true, Bool.true_and, Bool.not_false, Bool.not_true, if_true]; unfold alC kiC rdC wNone; rfl) ?_
          cases hK : sEq (chkW (alC LL M) (alP LL M).length (alP LL M)) wNone with
          | false => rw [hK] at h; cases h; rfl
          | true => rw [hK] at h; cases h; rfl
  · simp [den_fail] at h
end Go.Proofs.YtkgbphheppfnaaaDoor
