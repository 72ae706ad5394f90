/- Layer 6: which messages may be; plain laws of bytes; times. The conditions stand in the specifications. -/
import Derived.Test.YthjldfmlclpdbaaFrA
import Derived.Test.YthjldfmlclpdbaaRxB
set_option linter.unusedSimpArgs false
set_option linter.unusedVariables false
set_option linter.unnecessarySimpa false
set_option linter.unusedSectionVars false
set_option maxRecDepth 100000
set_option linter.unusedSimpArgs false
set_option linter.unusedVariables false
namespace Go.Proofs.Ythjldfmlclpdbaa
open Go.Rx

def stmB (t : Stm) : Bool := decide (0 ≤ t.sec) && decide (t.sec ≤ 281474976710655) && decide (0 ≤ t.ns) && decide (t.ns ≤ 999999999)
def stmS : Rx.Spec := fun a b => match a, b with
  | [v], [] => match Stm.of v with
    | some t => .leaf ⟨.bool (stmB t), [], []⟩
    | none => .fail
  | _, _ => .fail
theorem stm_ok : SpecOK P 29 stmS := by
  refine specOK_fast (GammaOK.nil P) hm (Λ := loopsOf []) Try.func29 (by kernel_rfl) (LoopsOK.nil (by kernel_rfl)) ?_
  intro args bs r h
  unfold stmS at h
  split at h
  · split at h
    · rename_i v t ht
      rw [Stm.of_eq ht]
      rw [den_leaf] at h; subst h
      rw [show (fFn P (specsOf []) (loopsOf []) Try.f29 [t.v] []).denN = Tree.denN (Tree.ite (decide (t.1 ≥ 0))
  (Tree.ite (decide (t.1 < 281474976710656))
    (Tree.ite (decide (t.2 ≥ 0)) (Tree.leaf { v := V.bool (decide (t.2 < 1000000000)), upd := [], new := [] })
      (Tree.leaf { v := V.fls, upd := [], new := [] }))
    (Tree.leaf { v := V.fls, upd := [], new := [] }))
  (Tree.leaf { v := V.fls, upd := [], new := [] })) from by kernel_rfl]
      simp only [denN_ite, denN_leaf, denN_fail, nrmF, nrmT, iteR]
      refine resB ?_
      simp only [stmB, iteF, iteT, iteN]
      rw [Bool.eq_iff_iff]
      simp only [Bool.and_eq_true, Bool.or_eq_true, Bool.not_eq_true', decide_eq_true_eq, decide_eq_false_iff_not, beq_iff_eq, bne_iff_ne, ne_eq]
      omega
    · simp [den_fail] at h
  · simp [den_fail] at h
theorem refStm_ok : SpecOK P 32 stmS := by
  refine specOK_fast (GammaOK.nil P) hm (Λ := loopsOf []) Try.func32 (by kernel_rfl) (LoopsOK.nil (by kernel_rfl)) ?_
  intro args bs r h
  unfold stmS at h
  split at h
  · split at h
    · rename_i v t ht
      rw [Stm.of_eq ht]
      rw [den_leaf] at h; subst h
      rw [show (fFn P (specsOf []) (loopsOf []) Try.f32 [t.v] []).denN = Tree.denN (Tree.ite (decide (t.1 ≥ 0))
  (Tree.ite (decide (t.1 ≤ 281474976710655))
    (Tree.ite (decide (t.2 ≥ 0)) (Tree.leaf { v := V.bool (decide (t.2 ≤ 999999999)), upd := [], new := [] })
      (Tree.leaf { v := V.fls, upd := [], new := [] }))
    (Tree.leaf { v := V.fls, upd := [], new := [] }))
  (Tree.leaf { v := V.fls, upd := [], new := [] })) from by kernel_rfl]
      simp only [denN_ite, denN_leaf, denN_fail, nrmF, nrmT, iteR]
      refine resB ?_
      simp only [stmB, iteF, iteT, iteN]
      rw [Bool.eq_iff_iff]
      simp only [Bool.and_eq_true, Bool.or_eq_true, Bool.not_eq_true', decide_eq_true_eq, decide_eq_false_iff_not, beq_iff_eq, bne_iff_ne, ne_eq]
      omega
    · simp [den_fail] at h
  · simp [den_fail] at h
end Go.Proofs.Ythjldfmlclpdbaa

set_option maxRecDepth 100000
set_option linter.unusedSimpArgs false
set_option linter.unusedVariables false
namespace Go.Proofs.Ythjldfmlclpdbaa
open Go.Rx

def inB (top n : Int) : Bool := decide (0 ≤ n) && decide (n ≤ top)
def withF (vals : List V) (bs : List Blk) : Tree LRes := match vals, bs with
  | [.int .i64 top, .sl 0 0 0 1 l cap, .int .i64 len, .int .i64 k], [.ints .i64 xs] =>
    .need (decide (len = l) && decide (l = xs.length) && decide (0 ≤ k) && decide (k ≤ l) && decide (l ≤ 9223372036854775806))
      (.ite ((xs.drop k.toNat).all (inB top)) (.leaf ⟨.exit 0, [.any], [none], []⟩) (.leaf ⟨.ret, [.fls], [none], []⟩))
  | _, _ => .fail
def withL : LSpec := ⟨21, [0, 7, 8, 9], [4], withF⟩
theorem with_rounds (top : Int) (cap : Option Nat) (xs : List Int) (hl : xs.length ≤ 9223372036854775806) : ∀ (m k : Nat), m + k = xs.length →
    (loopN P (specsOf []) (loopsOf []) 21 [0, 7, 8, 9] [4] (loopAt Try.f52 0) (m + 1) [.int .i64 top, .sl 0 0 0 1 xs.length cap, .int .i64 xs.length, .int .i64 k] [.ints .i64 xs]).den =
      some (if (xs.drop k).all (inB top) then ⟨.exit 0, [.any], [none], []⟩ else ⟨.ret, [.fls], [none], []⟩) := by
  have round : ∀ (top len k : Int) (l : Nat), (evRound P (specsOf []) (loopsOf []) 21 [0, 7, 8, 9] [4] (loopAt Try.f52 0) [.int .i64 top, .sl 0 0 0 1 l cap, .int .i64 len, .int .i64 k] [.ints .i64 xs]).den = Tree.den (Tree.ite (decide (k < len)) (Tree.ite (decide (0 ≤ k) && decide (k < (↑l : Int))) (Tree.ite (decide (0 + k.toNat + 1 ≤ xs.length)) (Tree.ite (decide (xs.getD (0 + k.toNat + 0) 0 < 0)) (Tree.leaf { e := Ex.ret, vs := [V.fls], upd := [none], new := [] }) (Tree.ite (decide (xs.getD (0 + k.toNat + 0) 0 > top)) (Tree.leaf { e := Ex.ret, vs := [V.fls], upd := [none], new := [] }) (Tree.leaf { e := Ex.nrm, vs := [V.int IntKind.i64 top, V.sl 0 0 0 1 l cap, V.int IntKind.i64 len, V.int IntKind.i64 (IntKind.i64.wrap (k + 1))], upd := [none], new := [] }))) Tree.fail) Tree.fail) (Tree.leaf { e := Ex.exit 0, vs := [V.any], upd := [none], new := [] })) := by
    intro top len k l
    kernel_rfl
  intro m
  induction m with
  | zero =>
    intro k hk
    have hr := round top xs.length k xs.length
    rw [show decide ((k : Int) < (xs.length : Int)) = false by simp; omega] at hr
    simp only [denI, denLf, denFl, Bool.false_eq_true, if_false] at hr
    rw [List.drop_of_length_le (by omega), List.all_nil, if_pos rfl]
    exact loopN_end hr (by simp)
  | succ m ih =>
    intro k hk
    have hr := round top xs.length k xs.length
    rw [show decide ((k : Int) < (xs.length : Int)) = true by simp; omega, show decide (0 ≤ (k : Int)) = true by simp, show decide (0 + (k : Int).toNat + 1 ≤ xs.length) = true by simp; omega, wrap64_id (n := (k : Int) + 1) (by omega) (by omega),
      Nat.zero_add, Nat.add_zero, Int.toNat_natCast] at hr
    simp only [denI, denLf, denFl, if_true, Bool.and_self, decide_eq_true_eq] at hr
    rw [drop_getD (show k < xs.length by omega), List.all_cons]
    generalize xs.getD k 0 = y at *
    by_cases h1 : y < 0
    · rw [if_pos h1] at hr
      rw [show inB top y = false by simp [inB]; omega, Bool.false_and, if_neg (by simp)]
      exact loopN_end hr (by simp)
    · by_cases h2 : y > top
      · rw [if_neg h1, if_pos h2] at hr
        rw [show inB top y = false by simp [inB]; omega, Bool.false_and, if_neg (by simp)]
        exact loopN_end hr (by simp)
      · rw [if_neg h1, if_neg h2] at hr
        rw [show inB top y = true by simp [inB]; omega, Bool.true_and]
        have ih' := ih (k + 1) (by omega)
        refine loopN_step hr rfl (vals' := [.int .i64 top, .sl 0 0 0 1 xs.length cap, .int .i64 xs.length, .int .i64 ((k + 1 : Nat) : Int)]) (bs' := [.ints .i64 xs]) (by kernel_rfl) ?_ (by kernel_rfl) ih' ?_
        · rw [show ((k + 1 : Nat) : Int) = (k : Int) + 1 by omega]
          kernel_rfl
        · cases (xs.drop (k + 1)).all (inB top) <;> kernel_rfl
theorem with_loop : LoopOK P (loopAt Try.f52 0) withL := by
  refine loop_ok (GammaOK.nil P) hm (Λ := loopsOf []) (LoopsOK.nil (by kernel_rfl)) _ ?_
  intro vals bs r h
  simp only [withL, withF] at h
  split at h
  · rename_i top l cap len k xs
    rw [den_need] at h
    simp only [Bool.and_eq_true, decide_eq_true_eq] at h
    obtain ⟨⟨⟨⟨⟨h1, h2⟩, h3⟩, h4⟩, h5⟩, h⟩ := h
    subst h1 h2
    refine ⟨(xs.length - k.toNat) + 1, ?_⟩
    have := with_rounds top cap xs h5 (xs.length - k.toNat) k.toNat (by omega)
    rw [Int.toNat_of_nonneg h3] at this
    refine this.trans ?_
    rw [← h, denI, denLf, denLf]
    split <;> rfl
  · simp [den_fail] at h

def withinS : Rx.Spec := fun a b => match a, b with
  | [.int .i64 top, .sl 0 0 0 1 l cap], [.ints .i64 xs] => .need (decide (l = xs.length) && decide (l ≤ 9223372036854775806)) (.leaf ⟨.bool (xs.all (inB top)), [none], []⟩)
  | _, _ => .fail
theorem within_ok : SpecOK P 52 withinS := by
  refine specOK_fast (GammaOK.nil P) hm (Λ := loopsOf [(firstRegion (loopAt Try.f52 0), withL)]) Try.func52 (by kernel_rfl) (LoopsOK.one (by kernel_rfl) with_loop) ?_
  intro args bs r h
  unfold withinS at h
  split at h
  · rename_i top l cap xs
    rw [den_need, den_leaf] at h
    obtain ⟨hf, rfl⟩ := h
    simp only [Bool.and_eq_true, decide_eq_true_eq] at hf
    obtain ⟨rfl, hl⟩ := hf
    rw [show (fFn P (specsOf []) (loopsOf [(firstRegion (loopAt Try.f52 0), withL)]) Try.f52 [.int .i64 top, .sl 0 0 0 1 xs.length cap] [.ints .i64 xs]).denN = Tree.denN (Tree.ite (decide ((↑xs.length : Int) = (↑xs.length : Int)) && decide (xs.length = xs.length) && true && true && decide (xs.length ≤ 9223372036854775806)) (Tree.ite ((List.drop 0 xs).all (inB top)) (Tree.leaf { v := V.tru, upd := [none], new := [] }) (Tree.leaf { v := V.fls, upd := [none], new := [] })) Tree.fail) from by kernel_rfl]
    simp only [denN_ite, denN_leaf, denN_fail]
    rw [if_pos (by simpa using hl), List.drop_zero, nrmF, nrmT, iteR]
    exact resB (by cases xs.all (inB top) <;> rfl)
  · simp [den_fail] at h

noncomputable def zeroS : Rx.Spec := fFn P (specsOf []) (loopsOf []) Try.f53
theorem zero_ok : SpecOK P 53 zeroS := inl_ok (GammaOK.nil P) hm Try.func53 (by kernel_rfl) (LoopsOK.nil (by kernel_rfl))
theorem ann_G : GammaOK P [(52, withinS), (53, zeroS)] := .cons within_ok (.cons zero_ok (.nil P))
def annB (m : Msg) : Bool := decide (-32768 ≤ m.off) && decide (m.off ≤ 32767) && (inB 255 m.set.p1 && inB 255 m.set.p2 && inB 255 m.set.q.cl && inB 255 m.set.q.ac && inB 255 m.src) && (inB 65535 m.set.q.va && inB 65535 m.set.st) &&
  !(Ck.eqB m.set.g Ck.zero) && Prt.eqB m.set.snd m.h.src && Prt.eqB m.set.rcv Prt.zero
def annS : Rx.Spec := fun a b => match a, b with
  | [v], [] => match Msg.of v with
    | some m => .leaf ⟨.bool (annB m), [], []⟩
    | none => .fail
  | _, _ => .fail
theorem ann_ok : SpecOK P 30 annS := by
  refine specOK_fast ann_G hm (Λ := loopsOf []) Try.func30 (by kernel_rfl) (LoopsOK.nil (by kernel_rfl)) ?_
  intro args bs r h
  unfold annS at h
  split at h
  · split at h
    · rename_i v m hm'
      rw [Msg.of_eq hm']
      rw [den_leaf] at h; subst h
      rw [show (fFn P (specsOf [(52, withinS), (53, zeroS)]) (loopsOf []) Try.f30 [m.v] []).denN = Tree.denN (Tree.ite (decide (m.4 ≥ -32768)) (Tree.ite (decide (m.4 < 32768)) (Tree.ite ([m.set.1, m.set.2, m.set.q.1, m.set.q.2, m.6].all (inB 255)) (Tree.ite ([m.set.q.3, m.set.5].all (inB 65535)) (Tree.ite (!(Ck.eqB m.set.g Ck.zero)) (Tree.ite (Prt.eqB m.set.snd m.h.src) (Tree.leaf { v := V.bool (Prt.eqB m.set.rcv Prt.zero), upd := [], new := [] }) (Tree.leaf { v := V.fls, upd := [], new := [] })) (Tree.leaf { v := V.fls, upd := [], new := [] })) (Tree.leaf { v := V.fls, upd := [], new := [] })) (Tree.leaf { v := V.fls, upd := [], new := [] })) (Tree.leaf { v := V.fls, upd := [], new := [] })) (Tree.leaf { v := V.fls, upd := [], new := [] })) from by kernel_rfl]
      simp only [denN_ite, denN_leaf, denN_fail, nrmF, nrmT, iteR]
      refine resB ?_
      simp only [annB, inB, List.all_cons, List.all_nil, iteF, iteT, iteN]
      rw [Bool.eq_iff_iff]
      simp only [Bool.and_eq_true, Bool.or_eq_true, Bool.not_eq_true', decide_eq_true_eq, decide_eq_false_iff_not, beq_iff_eq, bne_iff_ne, ne_eq]
      first | omega | grind
    · simp [den_fail] at h
  · simp [den_fail] at h
end Go.Proofs.Ythjldfmlclpdbaa

set_option maxRecDepth 100000
set_option linter.unusedSimpArgs false
set_option linter.unusedVariables false
namespace Go.Proofs.Ythjldfmlclpdbaa
open Go.Rx

def hdB (h : Rx.Hd) : Bool := rightB h.ty h.dom h.fl h.src.n h.se h.lo
def rightM (m : Msg) : Bool := hdB m.h && stmB m.t && (if m.h.ty = 9 then inB 65534 m.ask.n && decide (1 ≤ m.ask.n) && decide (m.off = 0) && decide (m.src = 0) && Ste.eqB m.set Ste.zero
  else if m.h.ty = 11 then Prt.eqB m.ask Prt.zero && annB m else Prt.eqB m.ask Prt.zero && decide (m.off = 0) && decide (m.src = 0) && Ste.eqB m.set Ste.zero)
def rightMS : Rx.Spec := fun a b => match a, b with
  | [v], [] => match Msg.of v with
    | some m => .need (inI64 m.h.fl) (.leaf ⟨.bool (rightM m), [], []⟩)
    | none => .fail
  | _, _ => .fail
theorem rightM_G : GammaOK P [(28, rightS), (29, stmS), (30, annS)] := .cons right_ok (.cons stm_ok (.cons ann_ok (.nil P)))
theorem rightM_ok : SpecOK P 14 rightMS := by
  refine specOK_fast rightM_G hm (Λ := loopsOf []) Try.func14 (by kernel_rfl) (LoopsOK.nil (by kernel_rfl)) ?_
  intro args bs r h
  unfold rightMS at h
  split at h
  · split at h
    · rename_i v m hm'
      rw [Msg.of_eq hm']
      rw [den_need, den_leaf] at h
      obtain ⟨hf, rfl⟩ := h
      rw [show (fFn P (specsOf [(28, rightS), (29, stmS), (30, annS)]) (loopsOf []) Try.f14 [m.v] []).denN = Tree.denN (Tree.ite (inI64 m.h.3) (Tree.ite (!rightB m.h.1 m.h.2 m.h.3 m.h.src.2 m.h.6 m.h.7) (Tree.leaf { v := V.fls, upd := [], new := [] }) (Tree.ite (!stmB { sec := m.t.1, ns := m.t.2 }) (Tree.leaf { v := V.fls, upd := [], new := [] }) (Tree.ite (m.h.1 == 9) (Tree.ite (Hd.eqB m.h m.h && (Stm.eqB m.t m.t && (Prt.eqB m.ask m.ask && (m.4 == 0 && (Ste.eqB m.set Ste.zero && (m.6 == 0 && true)))))) (Tree.ite (decide (m.ask.2 ≥ 1)) (Tree.leaf { v := V.bool (decide (m.ask.2 < 65535)), upd := [], new := [] }) (Tree.leaf { v := V.fls, upd := [], new := [] })) (Tree.leaf { v := V.fls, upd := [], new := [] })) (Tree.ite (m.h.1 == 11) (Tree.ite (Prt.eqB m.ask Prt.zero) (Tree.leaf { v := V.bool (annB { h := { ty := m.h.1, dom := m.h.2, fl := m.h.3, co := m.h.4, src := { c := { b0 := m.h.src.c.1, b1 := m.h.src.c.2, b2 := m.h.src.c.3, b3 := m.h.src.c.4, b4 := m.h.src.c.5, b5 := m.h.src.c.6, b6 := m.h.src.c.7, b7 := m.h.src.c.8 }, n := m.h.src.2 }, se := m.h.6, lo := m.h.7 }, t := { sec := m.t.1, ns := m.t.2 }, ask := { c := { b0 := m.ask.c.1, b1 := m.ask.c.2, b2 := m.ask.c.3, b3 := m.ask.c.4, b4 := m.ask.c.5, b5 := m.ask.c.6, b6 := m.ask.c.7, b7 := m.ask.c.8 }, n := m.ask.2 }, off := m.4, set := { p1 := m.set.1, p2 := m.set.2, q := { cl := m.set.q.1, ac := m.set.q.2, va := m.set.q.3 }, g := { b0 := m.set.g.1, b1 := m.set.g.2, b2 := m.set.g.3, b3 := m.set.g.4, b4 := m.set.g.5, b5 := m.set.g.6, b6 := m.set.g.7, b7 := m.set.g.8 }, st := m.set.5, snd := { c := { b0 := m.set.snd.c.1, b1 := m.set.snd.c.2, b2 := m.set.snd.c.3, b3 := m.set.snd.c.4, b4 := m.set.snd.c.5, b5 := m.set.snd.c.6, b6 := m.set.snd.c.7, b7 := m.set.snd.c.8 }, n := m.set.snd.2 }, rcv := { c := { b0 := m.set.rcv.c.1, b1 := m.set.rcv.c.2, b2 := m.set.rcv.c.3, b3 := m.set.rcv.c.4, b4 := m.set.rcv.c.5, b5 := m.set.rcv.c.6, b6 := m.set.rcv.c.7, b7 := m.set.rcv.c.8 }, n := m.set.rcv.2 } }, src := m.6 }), upd := [], new := [] }) (Tree.leaf { v := V.fls, upd := [], new := [] })) (Tree.leaf { v := V.bool (Hd.eqB m.h m.h && (Stm.eqB m.t m.t && (Prt.eqB m.ask Prt.zero && (m.4 == 0 && (Ste.eqB m.set Ste.zero && (m.6 == 0 && true)))))), upd := [], new := [] }))))) Tree.fail) from by kernel_rfl]
      simp only [denN_ite, denN_leaf, denN_fail]
      rw [if_pos hf]
      simp only [denN_ite, denN_leaf, denN_fail, nrmF, nrmT, iteR]
      refine resB ?_
      simp only [rightM, hdB, inB, annB, Stm.eqB_self, Prt.eqB_self, Rx.Hd.eqB_self, Bool.true_and, iteF, iteT, iteN]
      rw [Bool.eq_iff_iff]
      simp only [Bool.and_eq_true, Bool.or_eq_true, Bool.not_eq_true', decide_eq_true_eq, decide_eq_false_iff_not, beq_iff_eq, bne_iff_ne, ne_eq]
      first | omega | grind
    · simp [den_fail] at h
  · simp [den_fail] at h
noncomputable def octetS : Rx.Spec := fFn P (specsOf []) (loopsOf []) Try.f33
theorem octet_ok : SpecOK P 33 octetS := inl_ok (GammaOK.nil P) hm Try.func33 (by kernel_rfl) (LoopsOK.nil (by kernel_rfl))
noncomputable def wordS : Rx.Spec := fFn P (specsOf []) (loopsOf []) Try.f34
theorem word_ok : SpecOK P 34 wordS := inl_ok (GammaOK.nil P) hm Try.func34 (by kernel_rfl) (LoopsOK.nil (by kernel_rfl))
theorem refRightM_G : GammaOK P [(31, rightS), (32, stmS), (33, octetS), (34, wordS)] := .cons refRight_ok (.cons refStm_ok (.cons octet_ok (.cons word_ok (.nil P))))
theorem refRightM_ok : SpecOK P 15 rightMS := by
  refine specOK_fast refRightM_G hm (Λ := loopsOf []) Try.func15 (by kernel_rfl) (LoopsOK.nil (by kernel_rfl)) ?_
  intro args bs r h
  unfold rightMS at h
  split at h
  · split at h
    · rename_i v m hm'
      rw [Msg.of_eq hm']
      rw [den_need, den_leaf] at h
      obtain ⟨hf, rfl⟩ := h
      rw [show (fFn P (specsOf [(31, rightS), (32, stmS), (33, octetS), (34, wordS)]) (loopsOf []) Try.f15 [m.v] []).denN = Tree.denN (Tree.ite (inI64 m.h.3) (Tree.ite (!rightB m.h.1 m.h.2 m.h.3 m.h.src.2 m.h.6 m.h.7) (Tree.leaf { v := V.fls, upd := [], new := [] }) (Tree.ite (!stmB { sec := m.t.1, ns := m.t.2 }) (Tree.leaf { v := V.fls, upd := [], new := [] }) (Tree.ite (m.h.1 != 9) (Tree.ite (!(Prt.eqB m.ask Prt.zero)) (Tree.leaf { v := V.fls, upd := [], new := [] }) (Tree.ite (m.h.1 == 9) (Tree.ite (decide (m.ask.2 < 1)) (Tree.leaf { v := V.fls, upd := [], new := [] }) (Tree.ite (decide (m.ask.2 > 65534)) (Tree.leaf { v := V.fls, upd := [], new := [] }) (Tree.ite (m.h.1 != 11) (Tree.ite (m.4 == 0) (Tree.ite (m.6 == 0) (Tree.leaf { v := V.bool (Ste.eqB m.set Ste.zero), upd := [], new := [] }) (Tree.leaf { v := V.fls, upd := [], new := [] })) (Tree.leaf { v := V.fls, upd := [], new := [] })) (Tree.ite (decide (m.4 < -32768)) (Tree.leaf { v := V.fls, upd := [], new := [] }) (Tree.ite (decide (m.4 > 32767)) (Tree.leaf { v := V.fls, upd := [], new := [] }) (Tree.ite (decide (m.6 ≥ 0)) (Tree.ite (!decide (m.6 ≤ 255)) (Tree.leaf { v := V.fls, upd := [], new := [] }) (Tree.ite (!(Prt.eqB m.set.snd m.h.src)) (Tree.leaf { v := V.fls, upd := [], new := [] }) (Tree.ite (!(Prt.eqB m.set.rcv Prt.zero)) (Tree.leaf { v := V.fls, upd := [], new := [] }) (Tree.ite (decide (m.set.1 ≥ 0)) (Tree.ite (decide (m.set.1 ≤ 255)) (Tree.ite (decide (m.set.2 ≥ 0)) (Tree.ite (decide (m.set.2 ≤ 255)) (Tree.ite (decide (m.set.q.1 ≥ 0)) (Tree.ite (decide (m.set.q.1 ≤ 255)) (Tree.ite (decide (m.set.q.2 ≥ 0)) (Tree.ite (decide (m.set.q.2 ≤ 255)) (Tree.ite (decide (m.set.q.3 ≥ 0)) (Tree.ite (decide (m.set.q.3 ≤ 65535)) (Tree.ite (decide (m.set.5 ≥ 0)) (Tree.ite (decide (m.set.5 ≤ 65535)) (Tree.leaf { v := V.bool !(Ck.eqB m.set.g Ck.zero), upd := [], new := [] }) (Tree.leaf { v := V.fls, upd := [], new := [] })) (Tree.leaf { v := V.fls, upd := [], new := [] })) (Tree.leaf { v := V.fls, upd := [], new := [] })) (Tree.leaf { v := V.fls, upd := [], new := [] })) (Tree.leaf { v := V.fls, upd := [], new := [] })) (Tree.leaf { v := V.fls, upd := [], new := [] })) (Tree.leaf { v := V.fls, upd := [], new := [] })) (Tree.leaf { v := V.fls, upd := [], new := [] })) (Tree.leaf { v := V.fls, upd := [], new := [] })) (Tree.leaf { v := V.fls, upd := [], new := [] })) (Tree.leaf { v := V.fls, upd := [], new := [] })) (Tree.leaf { v := V.fls, upd := [], new := [] }))))) (Tree.leaf { v := V.fls, upd := [], new := [] }))))))) (Tree.ite (m.h.1 != 11) (Tree.ite (m.4 == 0) (Tree.ite (m.6 == 0) (Tree.leaf { v := V.bool (Ste.eqB m.set Ste.zero), upd := [], new := [] }) (Tree.leaf { v := V.fls, upd := [], new := [] })) (Tree.leaf { v := V.fls, upd := [], new := [] })) (Tree.ite (decide (m.4 < -32768)) (Tree.leaf { v := V.fls, upd := [], new := [] }) (Tree.ite (decide (m.4 > 32767)) (Tree.leaf { v := V.fls, upd := [], new := [] }) (Tree.ite (decide (m.6 ≥ 0)) (Tree.ite (!decide (m.6 ≤ 255)) (Tree.leaf { v := V.fls, upd := [], new := [] }) (Tree.ite (!(Prt.eqB m.set.snd m.h.src)) (Tree.leaf { v := V.fls, upd := [], new := [] }) (Tree.ite (!(Prt.eqB m.set.rcv Prt.zero)) (Tree.leaf { v := V.fls, upd := [], new := [] }) (Tree.ite (decide (m.set.1 ≥ 0)) (Tree.ite (decide (m.set.1 ≤ 255)) (Tree.ite (decide (m.set.2 ≥ 0)) (Tree.ite (decide (m.set.2 ≤ 255)) (Tree.ite (decide (m.set.q.1 ≥ 0)) (Tree.ite (decide (m.set.q.1 ≤ 255)) (Tree.ite (decide (m.set.q.2 ≥ 0)) (Tree.ite (decide (m.set.q.2 ≤ 255)) (Tree.ite (decide (m.set.q.3 ≥ 0)) (Tree.ite (decide (m.set.q.3 ≤ 65535)) (Tree.ite (decide (m.set.5 ≥ 0)) (Tree.ite (decide (m.set.5 ≤ 65535)) (Tree.leaf { v := V.bool !(Ck.eqB m.set.g Ck.zero), upd := [], new := [] }) (Tree.leaf { v := V.fls, upd := [], new := [] })) (Tree.leaf { v := V.fls, upd := [], new := [] })) (Tree.leaf { v := V.fls, upd := [], new := [] })) (Tree.leaf { v := V.fls, upd := [], new := [] })) (Tree.leaf { v := V.fls, upd := [], new := [] })) (Tree.leaf { v := V.fls, upd := [], new := [] })) (Tree.leaf { v := V.fls, upd := [], new := [] })) (Tree.leaf { v := V.fls, upd := [], new := [] })) (Tree.leaf { v := V.fls, upd := [], new := [] })) (Tree.leaf { v := V.fls, upd := [], new := [] })) (Tree.leaf { v := V.fls, upd := [], new := [] })) (Tree.leaf { v := V.fls, upd := [], new := [] }))))) (Tree.leaf { v := V.fls, upd := [], new := [] }))))))) (Tree.ite (m.h.1 == 9) (Tree.ite (decide (m.ask.2 < 1)) (Tree.leaf { v := V.fls, upd := [], new := [] }) (Tree.ite (decide (m.ask.2 > 65534)) (Tree.leaf { v := V.fls, upd := [], new := [] }) (Tree.ite (m.h.1 != 11) (Tree.ite (m.4 == 0) (Tree.ite (m.6 == 0) (Tree.leaf { v := V.bool (Ste.eqB m.set Ste.zero), upd := [], new := [] }) (Tree.leaf { v := V.fls, upd := [], new := [] })) (Tree.leaf { v := V.fls, upd := [], new := [] })) (Tree.ite (decide (m.4 < -32768)) (Tree.leaf { v := V.fls, upd := [], new := [] }) (Tree.ite (decide (m.4 > 32767)) (Tree.leaf { v := V.fls, upd := [], new := [] }) (Tree.ite (decide (m.6 ≥ 0)) (Tree.ite (!decide (m.6 ≤ 255)) (Tree.leaf { v := V.fls, upd := [], new := [] }) (Tree.ite (!(Prt.eqB m.set.snd m.h.src)) (Tree.leaf { v := V.fls, upd := [], new := [] }) (Tree.ite (!(Prt.eqB m.set.rcv Prt.zero)) (Tree.leaf { v := V.fls, upd := [], new := [] }) (Tree.ite (decide (m.set.1 ≥ 0)) (Tree.ite (decide (m.set.1 ≤ 255)) (Tree.ite (decide (m.set.2 ≥ 0)) (Tree.ite (decide (m.set.2 ≤ 255)) (Tree.ite (decide (m.set.q.1 ≥ 0)) (Tree.ite (decide (m.set.q.1 ≤ 255)) (Tree.ite (decide (m.set.q.2 ≥ 0)) (Tree.ite (decide (m.set.q.2 ≤ 255)) (Tree.ite (decide (m.set.q.3 ≥ 0)) (Tree.ite (decide (m.set.q.3 ≤ 65535)) (Tree.ite (decide (m.set.5 ≥ 0)) (Tree.ite (decide (m.set.5 ≤ 65535)) (Tree.leaf { v := V.bool !(Ck.eqB m.set.g Ck.zero), upd := [], new := [] }) (Tree.leaf { v := V.fls, upd := [], new := [] })) (Tree.leaf { v := V.fls, upd := [], new := [] })) (Tree.leaf { v := V.fls, upd := [], new := [] })) (Tree.leaf { v := V.fls, upd := [], new := [] })) (Tree.leaf { v := V.fls, upd := [], new := [] })) (Tree.leaf { v := V.fls, upd := [], new := [] })) (Tree.leaf { v := V.fls, upd := [], new := [] })) (Tree.leaf { v := V.fls, upd := [], new := [] })) (Tree.leaf { v := V.fls, upd := [], new := [] })) (Tree.leaf { v := V.fls, upd := [], new := [] })) (Tree.leaf { v := V.fls, upd := [], new := [] })) (Tree.leaf { v := V.fls, upd := [], new := [] }))))) (Tree.leaf { v := V.fls, upd := [], new := [] }))))))) (Tree.ite (m.h.1 != 11) (Tree.ite (m.4 == 0) (Tree.ite (m.6 == 0) (Tree.leaf { v := V.bool (Ste.eqB m.set Ste.zero), upd := [], new := [] }) (Tree.leaf { v := V.fls, upd := [], new := [] })) (Tree.leaf { v := V.fls, upd := [], new := [] })) (Tree.ite (decide (m.4 < -32768)) (Tree.leaf { v := V.fls, upd := [], new := [] }) (Tree.ite (decide (m.4 > 32767)) (Tree.leaf { v := V.fls, upd := [], new := [] }) (Tree.ite (decide (m.6 ≥ 0)) (Tree.ite (!decide (m.6 ≤ 255)) (Tree.leaf { v := V.fls, upd := [], new := [] }) (Tree.ite (!(Prt.eqB m.set.snd m.h.src)) (Tree.leaf { v := V.fls, upd := [], new := [] }) (Tree.ite (!(Prt.eqB m.set.rcv Prt.zero)) (Tree.leaf { v := V.fls, upd := [], new := [] }) (Tree.ite (decide (m.set.1 ≥ 0)) (Tree.ite (decide (m.set.1 ≤ 255)) (Tree.ite (decide (m.set.2 ≥ 0)) (Tree.ite (decide (m.set.2 ≤ 255)) (Tree.ite (decide (m.set.q.1 ≥ 0)) (Tree.ite (decide (m.set.q.1 ≤ 255)) (Tree.ite (decide (m.set.q.2 ≥ 0)) (Tree.ite (decide (m.set.q.2 ≤ 255)) (Tree.ite (decide (m.set.q.3 ≥ 0)) (Tree.ite (decide (m.set.q.3 ≤ 65535)) (Tree.ite (decide (m.set.5 ≥ 0)) (Tree.ite (decide (m.set.5 ≤ 65535)) (Tree.leaf { v := V.bool !(Ck.eqB m.set.g Ck.zero), upd := [], new := [] }) (Tree.leaf { v := V.fls, upd := [], new := [] })) (Tree.leaf { v := V.fls, upd := [], new := [] })) (Tree.leaf { v := V.fls, upd := [], new := [] })) (Tree.leaf { v := V.fls, upd := [], new := [] })) (Tree.leaf { v := V.fls, upd := [], new := [] })) (Tree.leaf { v := V.fls, upd := [], new := [] })) (Tree.leaf { v := V.fls, upd := [], new := [] })) (Tree.leaf { v := V.fls, upd := [], new := [] })) (Tree.leaf { v := V.fls, upd := [], new := [] })) (Tree.leaf { v := V.fls, upd := [], new := [] })) (Tree.leaf { v := V.fls, upd := [], new := [] })) (Tree.leaf { v := V.fls, upd := [], new := [] }))))) (Tree.leaf { v := V.fls, upd := [], new := [] }))))))))) Tree.fail) from by kernel_rfl]
      simp only [denN_ite, denN_leaf, denN_fail]
      rw [if_pos hf]
      simp only [denN_ite, denN_leaf, denN_fail, nrmF, nrmT, iteR]
      refine resB ?_
      simp only [rightM, hdB, inB, annB, Stm.eqB_self, Prt.eqB_self, Rx.Hd.eqB_self, Bool.true_and, iteF, iteT, iteN]
      rw [Bool.eq_iff_iff]
      simp only [Bool.and_eq_true, Bool.or_eq_true, Bool.not_eq_true', decide_eq_true_eq, decide_eq_false_iff_not, beq_iff_eq, bne_iff_ne, ne_eq]
      first | omega | grind
    · simp [den_fail] at h
  · simp [den_fail] at h
end Go.Proofs.Ythjldfmlclpdbaa

set_option maxRecDepth 100000
set_option linter.unusedSimpArgs false
set_option linter.unusedVariables false
namespace Go.Proofs.Ythjldfmlclpdbaa
open Go.Rx

theorem sum8 (co : Int) : sumF 0 [byteAt co 7, byteAt co 6, byteAt co 5, byteAt co 4, byteAt co 3, byteAt co 2, byteAt co 1, byteAt co 0] = co % 18446744073709551616 := by
  simp only [sumF, List.foldl_cons, List.foldl_nil, byteAt]
  have s (x : Int) (p : Int) (hp : 0 < p) : x % (p * 256) = (x / p % 256) * p + x % p := by
    have h1 := Int.mul_ediv_add_emod x p
    have h2 := Int.mul_ediv_add_emod (x / p) 256
    have h3 : x = (p * 256) * (x / p / 256) + ((x / p % 256) * p + x % p) := by
      have : p * (x / p) = p * (256 * (x / p / 256) + x / p % 256) := by rw [h2]
      rw [Int.mul_add, ← Int.mul_assoc, Int.mul_comm p (x / p % 256)] at this
      omega
    have h4 := Int.emod_nonneg x (Int.ne_of_gt hp)
    have h5 := Int.emod_lt_of_pos x hp
    have h6 : 0 ≤ x / p % 256 := Int.emod_nonneg _ (by omega)
    have h7 : x / p % 256 < 256 := Int.emod_lt_of_pos _ (by omega)
    have h8 : (x / p % 256) * p ≤ 255 * p := Int.mul_le_mul_of_nonneg_right (by omega) (by omega)
    have h9 : 0 ≤ (x / p % 256) * p := Int.mul_nonneg h6 (by omega)
    have e : ((p * 256) * (x / p / 256) + ((x / p % 256) * p + x % p)) % (p * 256) = ((x / p % 256) * p + x % p) % (p * 256) := by
      rw [Int.add_comm, Int.add_mul_emod_self_left]
    rw [h3.symm] at e
    rw [e]
    exact Int.emod_eq_of_lt (by omega) (by omega)
  have s0 := s co 1 (by omega)
  have s1 := s co 256 (by omega)
  have s2 := s co 65536 (by omega)
  have s3 := s co 16777216 (by omega)
  have s4 := s co 4294967296 (by omega)
  have s5 := s co 1099511627776 (by omega)
  have s6 := s co 281474976710656 (by omega)
  have s7 := s co 72057594037927936 (by omega)
  simp only [Int.reduceMul, Int.reducePow, Nat.reduceMul] at s0 s1 s2 s3 s4 s5 s6 s7 ⊢
  omega

def bz (c : Int) : Prop := 0 ≤ c ∧ c ≤ 255
theorem byteZ_iff {c : Int} : byteZ c = true ↔ 0 ≤ c ∧ c ≤ 255 := by simp [byteZ]
theorem inI64_iff {c : Int} : inI64 c = true ↔ -9223372036854775808 ≤ c ∧ c ≤ 9223372036854775807 := by simp [inI64]

section
variable {ty dom fl co c0 c1 c2 c3 c4 c5 c6 c7 n se lo : Int}
theorem head_long (t : List Int) : (headBytes ty dom fl co c0 c1 c2 c3 c4 c5 c6 c7 n se lo ++ t).length = 34 + t.length := by
  rw [List.length_append]; rfl
theorem longZ_of (h : ty = 0 ∨ ty = 1 ∨ ty = 8 ∨ ty = 9 ∨ ty = 11) : (longZ ty = 44 ∨ longZ ty = 54 ∨ longZ ty = 64) ∧ byteAt ty 0 = ty ∧ byteAt ty 0 % 16 = ty ∧ byteAt ty 0 / 16 = 0 := by
  rcases h with rfl | rfl | rfl | rfl | rfl <;> simp [longZ, byteAt]
/-- A head is told of its bytes. -/
theorem head_told (hr : rightB ty dom fl n se lo = true) (hc : inI64 co = true) (t : List Int) :
    dTy (headBytes ty dom fl co c0 c1 c2 c3 c4 c5 c6 c7 n se lo ++ t) = ty ∧ (headBytes ty dom fl co c0 c1 c2 c3 c4 c5 c6 c7 n se lo ++ t).getD 4 0 = dom ∧ dFl (headBytes ty dom fl co c0 c1 c2 c3 c4 c5 c6 c7 n se lo ++ t) = fl ∧
    dCo (headBytes ty dom fl co c0 c1 c2 c3 c4 c5 c6 c7 n se lo ++ t) = co ∧ dNum (headBytes ty dom fl co c0 c1 c2 c3 c4 c5 c6 c7 n se lo ++ t) = n ∧ dSe (headBytes ty dom fl co c0 c1 c2 c3 c4 c5 c6 c7 n se lo ++ t) = se ∧
    dLo (headBytes ty dom fl co c0 c1 c2 c3 c4 c5 c6 c7 n se lo ++ t) = lo := by
  obtain ⟨hty, h1, h2, h3, h4, h5, h6, h7, h8, h9, h10, h11⟩ := right_facts hr
  obtain ⟨_, e1, e2, e3⟩ := longZ_of hty
  refine ⟨e2, ?_, ?_, ?_, ?_, ?_, ?_⟩
  · show byteAt dom 0 = dom
    simp only [byteAt]; omega
  · show byteAt fl 1 * 256 + byteAt fl 0 = fl
    simp only [byteAt]; omega
  · show IntKind.i64.wrap (sumF 0 [byteAt co 7, byteAt co 6, byteAt co 5, byteAt co 4, byteAt co 3, byteAt co 2, byteAt co 1, byteAt co 0]) = co
    rw [sum8, wrap64_emod]
    rw [inI64_iff] at hc
    exact wrap64_id hc.1 hc.2
  · show n / 256 * 256 + n % 256 = n
    omega
  · show byteAt se 1 * 256 + byteAt se 0 = se
    simp only [byteAt]; omega
  · show (if byteAt lo 0 > 127 then byteAt lo 0 - 256 else byteAt lo 0) = lo
    have e : byteAt lo 0 = lo % 256 := by simp [byteAt]
    rw [e]
    by_cases h : lo % 256 > 127
    · rw [if_pos h]; omega
    · rw [if_neg h]; omega

/-- What is amiss with a head's bytes is its length alone. -/
theorem head_err (hr : rightB ty dom fl n se lo = true) (hc : inI64 co = true) (t : List Int) :
    decErr (headBytes ty dom fl co c0 c1 c2 c3 c4 c5 c6 c7 n se lo ++ t) = if (34 + t.length : Int) = longZ ty then 0 else 53 := by
  obtain ⟨e1, e2, e3, e4, e5, e6, e7⟩ := head_told (c0 := c0) (c1 := c1) (c2 := c2) (c3 := c3) (c4 := c4) (c5 := c5) (c6 := c6) (c7 := c7) hr hc t
  obtain ⟨hty, h1, h2, h3, h4, h5, h6, h7, h8, h9, h10, h11⟩ := right_facts hr
  obtain ⟨f0, f1, f2, f3⟩ := longZ_of hty
  unfold decErr
  have hl := head_long (ty := ty) (dom := dom) (fl := fl) (co := co) (c0 := c0) (c1 := c1) (c2 := c2) (c3 := c3) (c4 := c4) (c5 := c5) (c6 := c6) (c7 := c7) (n := n) (se := se) (lo := lo) t
  rw [e1, e3, e5, hl]
  have hsz : dSz (headBytes ty dom fl co c0 c1 c2 c3 c4 c5 c6 c7 n se lo ++ t) = longZ ty := by
    show byteAt (longZ ty) 1 * 256 + byteAt (longZ ty) 0 = longZ ty
    have := longZ_range ty
    simp only [byteAt]; omega
  have hres : resB8 (headBytes ty dom fl co c0 c1 c2 c3 c4 c5 c6 c7 n se lo ++ t) = false := by
    show (byteAt ty 0 / 16 != 0 || (0 : Int) != 0 || ((0 : Int) != 0 || (0 : Int) != 0 || (0 : Int) != 0 || (0 : Int) != 0) || (0 : Int) != 0) = false
    rw [f3]; rfl
  rw [hsz, hres]
  have hso : sourcedB n = true := by simp [sourcedB]; omega
  have hv : (headBytes ty dom fl co c0 c1 c2 c3 c4 c5 c6 c7 n se lo ++ t).getD 1 0 = 2 := rfl
  rw [if_neg (by omega), hv, if_neg (by omega), if_neg (by omega), h11, hso]
  by_cases hle : (34 + t.length : Int) = longZ ty
  · rw [if_neg (by simp; omega), if_pos hle]; rfl
  · rw [if_pos (by simp; omega), if_neg hle]

theorem head_bytes (hr : rightB ty dom fl n se lo = true) (hb : bz c0 ∧ bz c1 ∧ bz c2 ∧ bz c3 ∧ bz c4 ∧ bz c5 ∧ bz c6 ∧ bz c7) (k : Nat) :
    allByte (headBytes ty dom fl co c0 c1 c2 c3 c4 c5 c6 c7 n se lo ++ List.replicate k 0) = true := by
  obtain ⟨hty, h1, h2, h3, h4, h5, h6, h7, h8, h9, h10, h11⟩ := right_facts hr
  unfold bz at hb
  have hb' := byteAt_range
  have hq (x : Int) (j : Nat) : byteZ (byteAt x j) = true := by have := hb' x j; rw [byteZ_iff]; omega
  have hrep : (List.replicate k (0 : Int)).all byteZ = true := by simp [byteZ]
  unfold allByte
  rw [List.all_append, hrep, Bool.and_true]
  have hn1 : byteZ (n / 256) = true := by rw [byteZ_iff]; omega
  have hn2 : byteZ (n % 256) = true := by rw [byteZ_iff]; omega
  have q0 : byteZ c0 = true := byteZ_iff.2 hb.1
  have q1 : byteZ c1 = true := byteZ_iff.2 hb.2.1
  have q2 : byteZ c2 = true := byteZ_iff.2 hb.2.2.1
  have q3 : byteZ c3 = true := byteZ_iff.2 hb.2.2.2.1
  have q4 : byteZ c4 = true := byteZ_iff.2 hb.2.2.2.2.1
  have q5 : byteZ c5 = true := byteZ_iff.2 hb.2.2.2.2.2.1
  have q6 : byteZ c6 = true := byteZ_iff.2 hb.2.2.2.2.2.2.1
  have q7 : byteZ c7 = true := byteZ_iff.2 hb.2.2.2.2.2.2.2
  have z0 : byteZ 0 = true := rfl
  have z2 : byteZ 2 = true := rfl
  simp only [headBytes, List.all_cons, List.all_nil, hq, hn1, hn2, q0, q1, q2, q3, q4, q5, q6, q7, z0, z2, Bool.and_true]
end

theorem take_getD : ∀ (xs : List Int) (k : Nat), k ≤ xs.length → xs.take k = (List.range k).map fun i => xs.getD i 0
  | xs, 0, _ => by simp
  | [], k + 1, h => by simp at h
  | x :: xs, k + 1, h => by
    rw [List.take_succ_cons, take_getD xs k (by simpa using h), List.range_succ_eq_map]
    simp [Function.comp_def]

/-- What was read is right, and written as it was. -/
theorem told_right {xs : List Int} (hb : allByte xs = true) (h : decErr xs = 0) :
    34 ≤ xs.length ∧ rightB (dTy xs) (xs.getD 4 0) (dFl xs) (dNum xs) (dSe xs) (dLo xs) = true ∧ inI64 (dCo xs) = true ∧ (xs.length : Int) = longZ (dTy xs) ∧
    headBytes (dTy xs) (xs.getD 4 0) (dFl xs) (dCo xs) (xs.getD 20 0) (xs.getD 21 0) (xs.getD 22 0) (xs.getD 23 0) (xs.getD 24 0) (xs.getD 25 0) (xs.getD 26 0) (xs.getD 27 0) (dNum xs) (dSe xs) (dLo xs) = xs.take 34 := by
  have g := allByte_getD hb
  unfold decErr at h
  by_cases c0 : xs.length < 34
  · rw [if_pos c0] at h; cases h
  rw [if_neg c0] at h
  by_cases c1 : xs.getD 1 0 ≠ 2
  · rw [if_pos c1] at h; cases h
  rw [if_neg c1] at h
  by_cases c2 : longZ (dTy xs) = 0
  · rw [if_pos c2] at h; cases h
  rw [if_neg c2] at h
  by_cases c3 : dSz xs ≠ longZ (dTy xs) ∨ (xs.length : Int) ≠ longZ (dTy xs)
  · rw [if_pos c3] at h; cases h
  rw [if_neg c3] at h
  by_cases c4 : resB8 xs = true
  · rw [if_pos c4] at h; cases h
  rw [if_neg c4] at h
  by_cases c5 : ¬ flagsB (dTy xs) (dFl xs) = true
  · rw [if_pos c5] at h; cases h
  rw [if_neg c5] at h
  by_cases c6 : ¬ sourcedB (dNum xs) = true
  · rw [if_pos c6] at h; cases h
  clear h
  have c1 : xs.getD 1 0 = 2 := by omega
  have c3a : dSz xs = longZ (dTy xs) := by omega
  have c3b : (xs.length : Int) = longZ (dTy xs) := by omega
  have c5 : flagsB (dTy xs) (dFl xs) = true := by simpa using c5
  have c6 : sourcedB (dNum xs) = true := by simpa using c6
  have hlz := longZ_range (dTy xs)
  simp only [resB8, Bool.or_eq_true, bne_iff_ne, not_or, Classical.not_not] at c4
  obtain ⟨⟨⟨r0, r5⟩, ⟨⟨⟨r16, r17⟩, r18⟩, r19⟩⟩, r32⟩ := c4
  have g0 := g 0
  have g2 := g 2
  have g3 := g 3
  have g4 := g 4
  have g30 := g 30
  have g31 := g 31
  have g33 := g 33
  refine ⟨by omega, ?_, ?_, c3b, ?_⟩
  · unfold rightB
    simp only [c5, c6, Bool.and_eq_true, decide_eq_true_eq]
    unfold dSe dLo
    refine ⟨⟨⟨⟨⟨⟨⟨⟨by omega, by omega⟩, by omega⟩, trivial⟩, trivial⟩, by omega⟩, by omega⟩, ?_⟩, ?_⟩
    · split <;> omega
    · split <;> omega
  · rw [inI64_iff]
    unfold dCo
    rw [IntKind.wrap_i64]; omega
  · rw [take_getD xs 34 (by omega)]
    have e0 : byteAt (dTy xs) 0 = xs.getD 0 0 := by simp only [byteAt, dTy]; omega
    have e2 : byteAt (longZ (dTy xs)) 1 = xs.getD 2 0 := by rw [← c3a]; simp only [byteAt, dSz]; omega
    have e3 : byteAt (longZ (dTy xs)) 0 = xs.getD 3 0 := by rw [← c3a]; simp only [byteAt, dSz]; omega
    have e4 : byteAt (xs.getD 4 0) 0 = xs.getD 4 0 := by simp only [byteAt]; omega
    have g6 := g 6
    have g7 := g 7
    have e6 : byteAt (dFl xs) 1 = xs.getD 6 0 := by simp only [byteAt, dFl]; omega
    have e7 : byteAt (dFl xs) 0 = xs.getD 7 0 := by simp only [byteAt, dFl]; omega
    have g28 := g 28
    have g29 := g 29
    have e28 : dNum xs / 256 = xs.getD 28 0 := by simp only [dNum]; omega
    have e29 : dNum xs % 256 = xs.getD 29 0 := by simp only [dNum]; omega
    have e30 : byteAt (dSe xs) 1 = xs.getD 30 0 := by simp only [byteAt, dSe]; omega
    have e31 : byteAt (dSe xs) 0 = xs.getD 31 0 := by simp only [byteAt, dSe]; omega
    have e33 : byteAt (dLo xs) 0 = xs.getD 33 0 := by simp only [byteAt, dLo]; split <;> omega
    have hco : ∀ k, k ≤ 7 → byteAt (dCo xs) k = xs.getD (15 - k) 0 := by
      have g8 := g 8
      have g9 := g 9
      have g10 := g 10
      have g11 := g 11
      have g12 := g 12
      have g13 := g 13
      have g14 := g 14
      have g15 := g 15
      have hs : dCo xs = xs.getD 15 0 + 256 * (xs.getD 14 0 + 256 * (xs.getD 13 0 + 256 * (xs.getD 12 0 + 256 * (xs.getD 11 0 + 256 * (xs.getD 10 0 + 256 * (xs.getD 9 0 + 256 * xs.getD 8 0)))))) ∨
          dCo xs = xs.getD 15 0 + 256 * (xs.getD 14 0 + 256 * (xs.getD 13 0 + 256 * (xs.getD 12 0 + 256 * (xs.getD 11 0 + 256 * (xs.getD 10 0 + 256 * (xs.getD 9 0 + 256 * xs.getD 8 0)))))) - 18446744073709551616 := by
        unfold dCo
        rw [IntKind.wrap_i64]
        simp only [sumF, List.foldl_cons, List.foldl_nil]
        omega
      intro k hk
      have hk' : k = 0 ∨ k = 1 ∨ k = 2 ∨ k = 3 ∨ k = 4 ∨ k = 5 ∨ k = 6 ∨ k = 7 := by omega
      generalize dCo xs = D at hs
      rcases hk' with rfl | rfl | rfl | rfl | rfl | rfl | rfl | rfl <;> simp only [byteAt, Nat.reduceSub, Nat.reduceMul, Int.reducePow] <;> omega
    have q0 := hco 0 (by omega)
    have q1 := hco 1 (by omega)
    have q2 := hco 2 (by omega)
    have q3 := hco 3 (by omega)
    have q4 := hco 4 (by omega)
    have q5 := hco 5 (by omega)
    have q6 := hco 6 (by omega)
    have q7 := hco 7 (by omega)
    unfold headBytes
    rw [e0, e2, e3, e4, e6, e7, e28, e29, e30, e31, e33, q0, q1, q2, q3, q4, q5, q6, q7]
    show _ = [xs.getD 0 0, xs.getD 1 0, xs.getD 2 0, xs.getD 3 0, xs.getD 4 0, xs.getD 5 0, xs.getD 6 0, xs.getD 7 0, xs.getD 8 0, xs.getD 9 0, xs.getD 10 0, xs.getD 11 0, xs.getD 12 0, xs.getD 13 0, xs.getD 14 0, xs.getD 15 0,
      xs.getD 16 0, xs.getD 17 0, xs.getD 18 0, xs.getD 19 0, xs.getD 20 0, xs.getD 21 0, xs.getD 22 0, xs.getD 23 0, xs.getD 24 0, xs.getD 25 0, xs.getD 26 0, xs.getD 27 0, xs.getD 28 0, xs.getD 29 0, xs.getD 30 0, xs.getD 31 0, xs.getD 32 0, xs.getD 33 0]
    rw [c1, r5, r16, r17, r18, r19, r32]
end Go.Proofs.Ythjldfmlclpdbaa

set_option maxRecDepth 100000
set_option linter.unusedSimpArgs false
set_option linter.unusedVariables false
namespace Go.Proofs.Ythjldfmlclpdbaa
open Go.Rx

def hdBytes (h : Rx.Hd) : List Int := headBytes h.ty h.dom h.fl h.co h.src.c.b0 h.src.c.b1 h.src.c.b2 h.src.c.b3 h.src.c.b4 h.src.c.b5 h.src.c.b6 h.src.c.b7 h.src.n h.se h.lo
def stmBytes (t : Stm) : List Int := [byteAt t.sec 5, byteAt t.sec 4, byteAt t.sec 3, byteAt t.sec 2, byteAt t.sec 1, byteAt t.sec 0, byteAt t.ns 3, byteAt t.ns 2, byteAt t.ns 1, byteAt t.ns 0]
def prtBytes (p : Prt) : List Int := [p.c.b0, p.c.b1, p.c.b2, p.c.b3, p.c.b4, p.c.b5, p.c.b6, p.c.b7, p.n / 256, p.n % 256]
def annBytes (m : Msg) : List Int := [byteAt m.off 1, byteAt m.off 0, 0, byteAt m.set.p1 0, byteAt m.set.q.cl 0, byteAt m.set.q.ac 0, byteAt m.set.q.va 1, byteAt m.set.q.va 0, byteAt m.set.p2 0,
  m.set.g.b0, m.set.g.b1, m.set.g.b2, m.set.g.b3, m.set.g.b4, m.set.g.b5, m.set.g.b6, m.set.g.b7, byteAt m.set.st 1, byteAt m.set.st 0, byteAt m.src 0]
def bodyBytes (m : Msg) : List Int := if m.h.ty = 9 then prtBytes m.ask else if m.h.ty = 11 then annBytes m else []
def msgBytes (m : Msg) : List Int := hdBytes m.h ++ (stmBytes m.t ++ bodyBytes m)

def dHd (xs : List Int) : Rx.Hd := ⟨dTy xs, xs.getD 4 0, dFl xs, dCo xs, ⟨⟨xs.getD 20 0, xs.getD 21 0, xs.getD 22 0, xs.getD 23 0, xs.getD 24 0, xs.getD 25 0, xs.getD 26 0, xs.getD 27 0⟩, dNum xs⟩, dSe xs, dLo xs⟩
def dSec (xs : List Int) : Int := sumF 0 [xs.getD 34 0, xs.getD 35 0, xs.getD 36 0, xs.getD 37 0, xs.getD 38 0, xs.getD 39 0]
def dNs (xs : List Int) : Int := sumF 0 [xs.getD 40 0, xs.getD 41 0, xs.getD 42 0, xs.getD 43 0]
def dTime (xs : List Int) : Stm := if dNs xs ≤ 999999999 then ⟨dSec xs, dNs xs⟩ else Stm.zero
def dAsk (xs : List Int) : Prt := ⟨⟨xs.getD 44 0, xs.getD 45 0, xs.getD 46 0, xs.getD 47 0, xs.getD 48 0, xs.getD 49 0, xs.getD 50 0, xs.getD 51 0⟩, xs.getD 52 0 * 256 + xs.getD 53 0⟩
def dOff (xs : List Int) : Int := if xs.getD 44 0 * 256 + xs.getD 45 0 > 32767 then xs.getD 44 0 * 256 + xs.getD 45 0 - 65536 else xs.getD 44 0 * 256 + xs.getD 45 0
def dSet (xs : List Int) : Ste := ⟨xs.getD 47 0, xs.getD 52 0, ⟨xs.getD 48 0, xs.getD 49 0, xs.getD 50 0 * 256 + xs.getD 51 0⟩, ⟨xs.getD 53 0, xs.getD 54 0, xs.getD 55 0, xs.getD 56 0, xs.getD 57 0, xs.getD 58 0, xs.getD 59 0, xs.getD 60 0⟩,
  xs.getD 61 0 * 256 + xs.getD 62 0, (dHd xs).src, Prt.zero⟩
def dMsg (xs : List Int) : Msg := ⟨dHd xs, dTime xs, if dTy xs = 9 then dAsk xs else Prt.zero, if dTy xs = 11 then dOff xs else 0, if dTy xs = 11 then dSet xs else Ste.zero, if dTy xs = 11 then xs.getD 63 0 else 0⟩
def okBody (xs : List Int) : Bool := decide (dNs xs ≤ 999999999) && (!(dTy xs == 11) || xs.getD 46 0 == 0) && rightM (dMsg xs)
def mErr (xs : List Int) : Int := if decErr xs ≠ 0 then decErr xs else if okBody xs = true then 0 else 60

theorem allByte_append (xs ys : List Int) : allByte (xs ++ ys) = (allByte xs && allByte ys) := by simp [allByte]
theorem drop_list (xs : List Int) (k n : Nat) (h : xs.length = k + n) : xs.drop k = (List.range n).map fun i => xs.getD (k + i) 0 := by
  apply List.ext_getElem?
  intro i
  rw [List.getElem?_drop, List.getElem?_map]
  by_cases hi : i < n
  · rw [List.getElem?_range hi, List.getElem?_eq_getElem (by omega)]
    simp [List.getD_eq_getElem?_getD, List.getElem?_eq_getElem (show k + i < xs.length by omega)]
  · rw [List.getElem?_eq_none (by omega), List.getElem?_eq_none (by simpa using hi)]
    rfl

theorem secs_of {xs : List Int} (g : ∀ i, 0 ≤ xs.getD i 0 ∧ xs.getD i 0 ≤ 255) : 0 ≤ dSec xs ∧ dSec xs ≤ 281474976710655 ∧ 0 ≤ dNs xs ∧ stmBytes ⟨dSec xs, dNs xs⟩ =
    [xs.getD 34 0, xs.getD 35 0, xs.getD 36 0, xs.getD 37 0, xs.getD 38 0, xs.getD 39 0, xs.getD 40 0, xs.getD 41 0, xs.getD 42 0, xs.getD 43 0] := by
  have h0 := g 34
  have h1 := g 35
  have h2 := g 36
  have h3 := g 37
  have h4 := g 38
  have h5 := g 39
  have h6 := g 40
  have h7 := g 41
  have h8 := g 42
  have h9 := g 43
  have es : dSec xs = xs.getD 39 0 + 256 * (xs.getD 38 0 + 256 * (xs.getD 37 0 + 256 * (xs.getD 36 0 + 256 * (xs.getD 35 0 + 256 * xs.getD 34 0)))) := by
    simp only [dSec, sumF, List.foldl_cons, List.foldl_nil]; omega
  have en : dNs xs = xs.getD 43 0 + 256 * (xs.getD 42 0 + 256 * (xs.getD 41 0 + 256 * xs.getD 40 0)) := by
    simp only [dNs, sumF, List.foldl_cons, List.foldl_nil]; omega
  refine ⟨by omega, by omega, by omega, ?_⟩
  simp only [stmBytes]
  generalize dSec xs = S at *
  generalize dNs xs = N at *
  have a5 : byteAt S 5 = xs.getD 34 0 := by simp only [byteAt, Nat.reduceMul, Int.reducePow]; omega
  have a4 : byteAt S 4 = xs.getD 35 0 := by simp only [byteAt, Nat.reduceMul, Int.reducePow]; omega
  have a3 : byteAt S 3 = xs.getD 36 0 := by simp only [byteAt, Nat.reduceMul, Int.reducePow]; omega
  have a2 : byteAt S 2 = xs.getD 37 0 := by simp only [byteAt, Nat.reduceMul, Int.reducePow]; omega
  have a1 : byteAt S 1 = xs.getD 38 0 := by simp only [byteAt, Nat.reduceMul, Int.reducePow]; omega
  have a0 : byteAt S 0 = xs.getD 39 0 := by simp only [byteAt, Nat.reduceMul, Int.reducePow]; omega
  have c3 : byteAt N 3 = xs.getD 40 0 := by simp only [byteAt, Nat.reduceMul, Int.reducePow]; omega
  have c2 : byteAt N 2 = xs.getD 41 0 := by simp only [byteAt, Nat.reduceMul, Int.reducePow]; omega
  have c1 : byteAt N 1 = xs.getD 42 0 := by simp only [byteAt, Nat.reduceMul, Int.reducePow]; omega
  have c0 : byteAt N 0 = xs.getD 43 0 := by simp only [byteAt, Nat.reduceMul, Int.reducePow]; omega
  rw [a5, a4, a3, a2, a1, a0, c3, c2, c1, c0]

/-- What is read, written: the same bytes. -/
theorem body_back {xs : List Int} (hb : allByte xs = true) (h : decErr xs = 0) (hn : dNs xs ≤ 999999999) (h46 : dTy xs = 11 → xs.getD 46 0 = 0) : msgBytes (dMsg xs) = xs := by
  obtain ⟨k1, k2, k3, k4, k5⟩ := told_right hb h
  have g := allByte_getD hb
  obtain ⟨_, _, _, hs⟩ := secs_of g
  obtain ⟨hl, _⟩ := longZ_of (right_facts k2).1
  have hx : xs = xs.take 34 ++ xs.drop 34 := (List.take_append_drop 34 xs).symm
  have hh : hdBytes (dMsg xs).h = xs.take 34 := k5
  have ht : (dMsg xs).t = ⟨dSec xs, dNs xs⟩ := by show dTime xs = _; unfold dTime; rw [if_pos hn]
  unfold msgBytes
  rw [hh, ht, hs]
  conv => rhs; rw [hx]
  congr 1
  have hty : (dMsg xs).h.ty = dTy xs := rfl
  by_cases h9 : dTy xs = 9
  · have hlen : xs.length = 34 + 20 := by rw [h9] at k4; simp [longZ] at k4; omega
    rw [drop_list xs 34 20 hlen]
    unfold bodyBytes
    rw [hty, if_pos h9]
    have ha : (dMsg xs).ask = dAsk xs := by show (if dTy xs = 9 then _ else _) = _; rw [if_pos h9]
    rw [ha]
    have g52 := g 52
    have g53 := g 53
    have e1 : (dAsk xs).n / 256 = xs.getD 52 0 := by show (xs.getD 52 0 * 256 + xs.getD 53 0) / 256 = _; omega
    have e2 : (dAsk xs).n % 256 = xs.getD 53 0 := by show (xs.getD 52 0 * 256 + xs.getD 53 0) % 256 = _; omega
    unfold prtBytes
    rw [e1, e2]
    rfl
  · by_cases h11 : dTy xs = 11
    · have hlen : xs.length = 34 + 30 := by rw [h11] at k4; simp [longZ] at k4; omega
      rw [drop_list xs 34 30 hlen]
      unfold bodyBytes
      rw [hty, if_neg h9, if_pos h11]
      have h46 := h46 h11
      have ho : (dMsg xs).off = dOff xs := by show (if dTy xs = 11 then _ else _) = _; rw [if_pos h11]
      have hst : (dMsg xs).set = dSet xs := by show (if dTy xs = 11 then _ else _) = _; rw [if_pos h11]
      have hsr : (dMsg xs).src = xs.getD 63 0 := by show (if dTy xs = 11 then _ else _) = _; rw [if_pos h11]
      unfold annBytes
      rw [ho, hst, hsr]
      have g44 := g 44
      have g45 := g 45
      have q1 : byteAt (dOff xs) 1 = xs.getD 44 0 := by simp only [byteAt, dOff, Nat.reduceMul, Int.reducePow]; split <;> omega
      have q0 : byteAt (dOff xs) 0 = xs.getD 45 0 := by simp only [byteAt, dOff, Nat.mul_zero, Int.pow_zero, Int.ediv_one]; split <;> omega
      have g47 := g 47
      have g48 := g 48
      have g49 := g 49
      have g50 := g 50
      have g51 := g 51
      have g52 := g 52
      have g61 := g 61
      have g62 := g 62
      have g63 := g 63
      have z (i : Nat) (hi : 0 ≤ xs.getD i 0 ∧ xs.getD i 0 ≤ 255) : byteAt (xs.getD i 0) 0 = xs.getD i 0 := by simp only [byteAt, Nat.mul_zero, Int.pow_zero, Int.ediv_one]; omega
      have r1 : byteAt (dSet xs).p1 0 = xs.getD 47 0 := z 47 g47
      have r2 : byteAt (dSet xs).q.cl 0 = xs.getD 48 0 := z 48 g48
      have r3 : byteAt (dSet xs).q.ac 0 = xs.getD 49 0 := z 49 g49
      have r4 : byteAt (dSet xs).q.va 1 = xs.getD 50 0 := by show byteAt (xs.getD 50 0 * 256 + xs.getD 51 0) 1 = _; simp only [byteAt, Nat.reduceMul, Int.reducePow]; omega
      have r5 : byteAt (dSet xs).q.va 0 = xs.getD 51 0 := by show byteAt (xs.getD 50 0 * 256 + xs.getD 51 0) 0 = _; simp only [byteAt, Nat.mul_zero, Int.pow_zero, Int.ediv_one]; omega
      have r6 : byteAt (dSet xs).p2 0 = xs.getD 52 0 := z 52 g52
      have r7 : byteAt (dSet xs).st 1 = xs.getD 61 0 := by show byteAt (xs.getD 61 0 * 256 + xs.getD 62 0) 1 = _; simp only [byteAt, Nat.reduceMul, Int.reducePow]; omega
      have r8 : byteAt (dSet xs).st 0 = xs.getD 62 0 := by show byteAt (xs.getD 61 0 * 256 + xs.getD 62 0) 0 = _; simp only [byteAt, Nat.mul_zero, Int.pow_zero, Int.ediv_one]; omega
      have r9 := z 63 g63
      rw [q1, q0, r1, r2, r3, r4, r5, r6, r7, r8, r9]
      rw [show (List.range 30).map (fun i => xs.getD (34 + i) 0) = [xs.getD 34 0, xs.getD 35 0, xs.getD 36 0, xs.getD 37 0, xs.getD 38 0, xs.getD 39 0, xs.getD 40 0, xs.getD 41 0, xs.getD 42 0, xs.getD 43 0, xs.getD 44 0, xs.getD 45 0, xs.getD 46 0, xs.getD 47 0, xs.getD 48 0, xs.getD 49 0, xs.getD 50 0, xs.getD 51 0, xs.getD 52 0, xs.getD 53 0, xs.getD 54 0, xs.getD 55 0, xs.getD 56 0, xs.getD 57 0, xs.getD 58 0, xs.getD 59 0, xs.getD 60 0, xs.getD 61 0, xs.getD 62 0, xs.getD 63 0] from rfl, h46]
      rfl
    · have hlen : xs.length = 34 + 10 := by
        have : longZ (dTy xs) = 44 := by
          rcases (right_facts k2).1 with h | h | h | h | h <;> rw [h] <;> first | rfl | omega
        omega
      rw [drop_list xs 34 10 hlen]
      unfold bodyBytes
      rw [hty, if_neg h9, if_neg h11]
      rfl

theorem dTime_ns {xs : List Int} (h : ¬ dNs xs ≤ 999999999) : dTime xs = Stm.zero := by unfold dTime; rw [if_neg h]
theorem hdBytes_len (h : Rx.Hd) : (hdBytes h).length = 34 := rfl
theorem msg_at (m : Msg) (i : Nat) : (msgBytes m).getD (34 + i) 0 = (stmBytes m.t ++ bodyBytes m).getD i 0 := by
  unfold msgBytes
  rw [List.getD_eq_getElem?_getD, List.getD_eq_getElem?_getD, List.getElem?_append_right (by rw [hdBytes_len]; omega), hdBytes_len, Nat.add_sub_cancel_left]

/-- Bytes that are written again as they are. -/
theorem body_ok {xs : List Int} (hb : allByte xs = true) (h : decErr xs = 0) : (rightM (dMsg xs) && decide (msgBytes (dMsg xs) = xs)) = okBody xs := by
  have g := allByte_getD hb
  obtain ⟨_, _, hns0, _⟩ := secs_of g
  unfold okBody
  cases hR : rightM (dMsg xs) with
  | false => simp
  | true =>
    rw [Bool.true_and, Bool.and_true]
    by_cases hn : dNs xs ≤ 999999999
    · by_cases h46 : dTy xs = 11 → xs.getD 46 0 = 0
      · rw [body_back hb h hn h46]
        by_cases h11 : dTy xs = 11
        · simp [-List.getD_eq_getElem?_getD, hn, h11, h46 h11]
        · simp [hn, h11]
      · have h11 : dTy xs = 11 := Classical.byContradiction fun hc => h46 fun hh => absurd hh hc
        have h46 : xs.getD 46 0 ≠ 0 := fun hc => h46 fun _ => hc
        have : msgBytes (dMsg xs) ≠ xs := by
          intro he
          apply h46
          rw [← he, msg_at (dMsg xs) 12]
          unfold bodyBytes
          rw [if_neg (by show dTy xs ≠ 9; omega), if_pos (by exact h11)]
          rfl
        simp [-List.getD_eq_getElem?_getD, this, h11, h46]
    · have : msgBytes (dMsg xs) ≠ xs := by
        intro he
        have ht : (dMsg xs).t = Stm.zero := dTime_ns hn
        have e (i : Nat) (hi : i < 4) : xs.getD (34 + (6 + i)) 0 = 0 := by
          rw [← he, msg_at]
          rw [ht]
          have : i = 0 ∨ i = 1 ∨ i = 2 ∨ i = 3 := by omega
          rcases this with rfl | rfl | rfl | rfl <;> rfl
        have e0 := e 0 (by omega)
        have e1 := e 1 (by omega)
        have e2 := e 2 (by omega)
        have e3 := e 3 (by omega)
        apply hn
        simp only [dNs, sumF, List.foldl_cons, List.foldl_nil]
        simp only [Nat.reduceAdd] at e0 e1 e2 e3
        omega
      simp [this, hn]

/-! ### What was written is read as it was -/
def ckZ (c : Ck) : Bool := byteZ c.b0 && byteZ c.b1 && byteZ c.b2 && byteZ c.b3 && byteZ c.b4 && byteZ c.b5 && byteZ c.b6 && byteZ c.b7
def msgZ (m : Msg) : Bool := inI64 m.h.co && ckZ m.h.src.c && ckZ m.ask.c && ckZ m.set.g
theorem stm_told {t : Stm} (h : stmB t = true) (r : List Int) : sumF 0 [(stmBytes t ++ r).getD 0 0, (stmBytes t ++ r).getD 1 0, (stmBytes t ++ r).getD 2 0, (stmBytes t ++ r).getD 3 0, (stmBytes t ++ r).getD 4 0, (stmBytes t ++ r).getD 5 0] = t.sec ∧
    sumF 0 [(stmBytes t ++ r).getD 6 0, (stmBytes t ++ r).getD 7 0, (stmBytes t ++ r).getD 8 0, (stmBytes t ++ r).getD 9 0] = t.ns := by
  simp only [stmB, Bool.and_eq_true, decide_eq_true_eq] at h
  constructor
  · show sumF 0 [byteAt t.sec 5, byteAt t.sec 4, byteAt t.sec 3, byteAt t.sec 2, byteAt t.sec 1, byteAt t.sec 0] = t.sec
    simp only [sumF, List.foldl_cons, List.foldl_nil, byteAt, Nat.reduceMul, Int.reducePow, Nat.mul_zero, Int.pow_zero, Int.ediv_one]
    generalize t.sec = S at *
    omega
  · show sumF 0 [byteAt t.ns 3, byteAt t.ns 2, byteAt t.ns 1, byteAt t.ns 0] = t.ns
    simp only [sumF, List.foldl_cons, List.foldl_nil, byteAt, Nat.reduceMul, Int.reducePow, Nat.mul_zero, Int.pow_zero, Int.ediv_one]
    generalize t.ns = S at *
    omega

theorem msg_long {m : Msg} (h : hdB m.h = true) : ((stmBytes m.t ++ bodyBytes m).length : Int) + 34 = longZ m.h.ty := by
  obtain ⟨hty, _⟩ := right_facts h
  unfold bodyBytes
  rcases hty with e | e | e | e | e <;> rw [e] <;> rfl
theorem msg_length {m : Msg} (h : hdB m.h = true) : ((msgBytes m).length : Int) = longZ m.h.ty := by
  have := msg_long h
  unfold msgBytes
  rw [List.length_append, hdBytes_len]
  omega
theorem off_told {o : Int} (h0 : -32768 ≤ o) (h1 : o ≤ 32767) : (if byteAt o 1 * 256 + byteAt o 0 > 32767 then byteAt o 1 * 256 + byteAt o 0 - 65536 else byteAt o 1 * 256 + byteAt o 0) = o := by
  have e1 : byteAt o 1 = o / 256 % 256 := by simp only [byteAt, Nat.reduceMul, Int.reducePow]
  have e0 : byteAt o 0 = o % 256 := by simp only [byteAt, Nat.mul_zero, Int.pow_zero, Int.ediv_one]
  rw [e1, e0]
  split <;> omega
theorem byte_id {n : Int} (h0 : 0 ≤ n) (h1 : n ≤ 255) : byteAt n 0 = n := by simp only [byteAt, Nat.mul_zero, Int.pow_zero, Int.ediv_one]; omega
theorem word_id {n : Int} (h0 : 0 ≤ n) (h1 : n ≤ 65535) : byteAt n 1 * 256 + byteAt n 0 = n := by simp only [byteAt, Nat.reduceMul, Int.reducePow, Nat.mul_zero, Int.pow_zero, Int.ediv_one]; omega

theorem msg_mk {m : Msg} {a : Prt} {o r : Int} {s : Ste} (h1 : m.ask = a) (ho : m.off = o) (hs : m.set = s) (hr : m.src = r) : (⟨m.h, m.t, a, o, s, r⟩ : Msg) = m := by subst h1 ho hs hr; rfl
theorem msg_told {m : Msg} (h : rightM m = true) (hz : msgZ m = true) : decErr (msgBytes m) = 0 ∧ dMsg (msgBytes m) = m ∧ okBody (msgBytes m) = true := by
  have h' := h
  unfold rightM at h'
  simp only [Bool.and_eq_true] at h'
  obtain ⟨⟨hh, hs⟩, hb⟩ := h'
  have hz' := hz
  simp only [msgZ, Bool.and_eq_true] at hz'
  obtain ⟨⟨⟨zc, z1⟩, z2⟩, z3⟩ := hz'
  have hfl := right_facts hh
  have t1 := head_told (ty := m.h.ty) (dom := m.h.dom) (fl := m.h.fl) (co := m.h.co) (c0 := m.h.src.c.b0) (c1 := m.h.src.c.b1) (c2 := m.h.src.c.b2) (c3 := m.h.src.c.b3) (c4 := m.h.src.c.b4) (c5 := m.h.src.c.b5) (c6 := m.h.src.c.b6) (c7 := m.h.src.c.b7)
    (n := m.h.src.n) (se := m.h.se) (lo := m.h.lo) hh zc (stmBytes m.t ++ bodyBytes m)
  obtain ⟨e1, e2, e3, e4, e5, e6, e7⟩ := t1
  have hlen := msg_long hh
  have herr : decErr (msgBytes m) = 0 := by
    have := head_err (ty := m.h.ty) (dom := m.h.dom) (fl := m.h.fl) (co := m.h.co) (c0 := m.h.src.c.b0) (c1 := m.h.src.c.b1) (c2 := m.h.src.c.b2) (c3 := m.h.src.c.b3) (c4 := m.h.src.c.b4) (c5 := m.h.src.c.b5) (c6 := m.h.src.c.b6) (c7 := m.h.src.c.b7)
      (n := m.h.src.n) (se := m.h.se) (lo := m.h.lo) hh zc (stmBytes m.t ++ bodyBytes m)
    rw [if_pos (by omega)] at this
    exact this
  have hty : dTy (msgBytes m) = m.h.ty := e1
  have hhd : dHd (msgBytes m) = m.h := by
    show (⟨dTy (msgBytes m), (msgBytes m).getD 4 0, dFl (msgBytes m), dCo (msgBytes m), ⟨m.h.src.c, dNum (msgBytes m)⟩, dSe (msgBytes m), dLo (msgBytes m)⟩ : Rx.Hd) = m.h
    rw [show dTy (msgBytes m) = m.h.ty from e1, show (msgBytes m).getD 4 0 = m.h.dom from e2, show dFl (msgBytes m) = m.h.fl from e3, show dCo (msgBytes m) = m.h.co from e4, show dNum (msgBytes m) = m.h.src.n from e5, show dSe (msgBytes m) = m.h.se from e6, show dLo (msgBytes m) = m.h.lo from e7]
  have hst := stm_told hs (bodyBytes m)
  have hsec : dSec (msgBytes m) = m.t.sec := by
    unfold dSec
    rw [msg_at m 0, msg_at m 1, msg_at m 2, msg_at m 3, msg_at m 4, msg_at m 5]
    exact hst.1
  have hns : dNs (msgBytes m) = m.t.ns := by
    unfold dNs
    rw [msg_at m 6, msg_at m 7, msg_at m 8, msg_at m 9]
    exact hst.2
  have hs' := hs
  simp only [stmB, Bool.and_eq_true, decide_eq_true_eq] at hs'
  have htm : dTime (msgBytes m) = m.t := by
    unfold dTime
    rw [hns, if_pos hs'.2, hsec]
  have hbody (i : Nat) : (msgBytes m).getD (44 + i) 0 = (bodyBytes m).getD i 0 := by
    rw [show 44 + i = 34 + (10 + i) by omega, msg_at]
    rw [List.getD_eq_getElem?_getD, List.getD_eq_getElem?_getD, List.getElem?_append_right (by show 10 ≤ 10 + i; omega)]
    rw [show 10 + i - (stmBytes m.t).length = i by show 10 + i - 10 = i; omega]
  have hmsg : dMsg (msgBytes m) = m ∧ (m.h.ty = 11 → (msgBytes m).getD 46 0 = 0) := by
    by_cases h9 : m.h.ty = 9
    · rw [if_pos h9] at hb
      simp only [inB, Bool.and_eq_true, decide_eq_true_eq, Ste.eqB_iff] at hb
      obtain ⟨⟨⟨⟨⟨n0, n1⟩, n2⟩, ho⟩, hsr⟩, hse⟩ := hb
      have hbb : bodyBytes m = prtBytes m.ask := by unfold bodyBytes; rw [if_pos h9]
      refine ⟨?_, fun hc => by omega⟩
      have ha : dAsk (msgBytes m) = m.ask := by
        unfold dAsk
        rw [hbody 0, hbody 1, hbody 2, hbody 3, hbody 4, hbody 5, hbody 6, hbody 7, hbody 8, hbody 9, hbb]
        show (⟨m.ask.c, m.ask.n / 256 * 256 + m.ask.n % 256⟩ : Prt) = m.ask
        rw [show m.ask.n / 256 * 256 + m.ask.n % 256 = m.ask.n by omega]
      unfold dMsg
      rw [hhd, htm, hty, if_pos h9, if_neg (by omega), if_neg (by omega), if_neg (by omega), ha]
      exact msg_mk rfl ho hse hsr
    · rw [if_neg h9] at hb
      by_cases h11 : m.h.ty = 11
      · rw [if_pos h11] at hb
        simp only [annB, inB, Bool.and_eq_true, decide_eq_true_eq, Prt.eqB_iff] at hb
        obtain ⟨hask, ⟨⟨⟨⟨⟨o0, o1⟩, ⟨⟨⟨p1, p2⟩, p3⟩, p4⟩, p5⟩, p6, p7⟩, p8⟩, p9⟩, p10⟩ := hb
        have hbb : bodyBytes m = annBytes m := by unfold bodyBytes; rw [if_neg h9, if_pos h11]
        refine ⟨?_, fun _ => by rw [hbody 2, hbb]; rfl⟩
        have hoff : dOff (msgBytes m) = m.off := by
          unfold dOff
          rw [hbody 0, hbody 1, hbb]
          exact off_told o0 o1
        have hset : dSet (msgBytes m) = m.set := by
          unfold dSet
          rw [hbody 3, hbody 4, hbody 5, hbody 6, hbody 7, hbody 8, hbody 9, hbody 10, hbody 11, hbody 12, hbody 13, hbody 14, hbody 15, hbody 16, hbody 17, hbody 18, hbb, hhd]
          show (⟨byteAt m.set.p1 0, byteAt m.set.p2 0, ⟨byteAt m.set.q.cl 0, byteAt m.set.q.ac 0, byteAt m.set.q.va 1 * 256 + byteAt m.set.q.va 0⟩, m.set.g, byteAt m.set.st 1 * 256 + byteAt m.set.st 0, m.h.src, Prt.zero⟩ : Ste) = m.set
          rw [byte_id p1.1 p1.2, byte_id p2.1 p2.2, byte_id p3.1 p3.2, byte_id p4.1 p4.2, word_id p6.1 p6.2, word_id p7.1 p7.2, ← p9, ← p10]
        have hsrc : (msgBytes m).getD 63 0 = m.src := by
          rw [hbody 19, hbb]
          exact byte_id p5.1 p5.2
        unfold dMsg
        rw [hhd, htm, hty, if_neg h9, if_pos h11, if_pos h11, if_pos h11, hoff, hset, hsrc]
        exact msg_mk hask rfl rfl rfl
      · rw [if_neg h11] at hb
        simp only [Bool.and_eq_true, decide_eq_true_eq, Prt.eqB_iff, Ste.eqB_iff] at hb
        obtain ⟨⟨⟨ha, ho⟩, hsr⟩, hse⟩ := hb
        refine ⟨?_, fun hc => absurd hc h11⟩
        unfold dMsg
        rw [hhd, htm, hty, if_neg h9, if_neg h11, if_neg h11, if_neg h11]
        exact msg_mk ha ho hse hsr
  refine ⟨herr, hmsg.1, ?_⟩
  unfold okBody
  rw [hmsg.1, h, hns, hty]
  have := hmsg.2
  by_cases h11 : m.h.ty = 11
  · simp [-List.getD_eq_getElem?_getD, h11, this h11, hs'.2]
  · simp [h11, hs'.2]

theorem ckZ_bz {c : Ck} (h : ckZ c = true) : bz c.b0 ∧ bz c.b1 ∧ bz c.b2 ∧ bz c.b3 ∧ bz c.b4 ∧ bz c.b5 ∧ bz c.b6 ∧ bz c.b7 := by
  simp only [ckZ, Bool.and_eq_true, byteZ_iff] at h
  simp only [bz]; omega
theorem msg_bytes {m : Msg} (h : rightM m = true) (hz : msgZ m = true) : allByte (msgBytes m) = true := by
  have h' := h
  unfold rightM at h'
  simp only [Bool.and_eq_true] at h'
  obtain ⟨⟨hh, hs⟩, hb⟩ := h'
  simp only [msgZ, Bool.and_eq_true] at hz
  obtain ⟨⟨⟨zc, z1⟩, z2⟩, z3⟩ := hz
  have hhb := head_bytes (co := m.h.co) hh (ckZ_bz z1) 0
  rw [List.replicate_zero, List.append_nil] at hhb
  have hb' := byteAt_range
  have hq (x : Int) (j : Nat) : byteZ (byteAt x j) = true := by have := hb' x j; rw [byteZ_iff]; omega
  have h0 : byteZ 0 = true := rfl
  unfold msgBytes
  rw [allByte_append, allByte_append, show allByte (hdBytes m.h) = true from hhb, show allByte (stmBytes m.t) = true by simp only [allByte, stmBytes, List.all_cons, List.all_nil, hq, Bool.and_self]]
  rw [Bool.true_and, Bool.true_and]
  unfold bodyBytes
  by_cases h9 : m.h.ty = 9
  · rw [if_pos h9] at hb ⊢
    simp only [inB, Bool.and_eq_true, decide_eq_true_eq] at hb
    simp only [ckZ, Bool.and_eq_true] at z2
    have a1 : byteZ (m.ask.n / 256) = true := by rw [byteZ_iff]; omega
    have a2 : byteZ (m.ask.n % 256) = true := by rw [byteZ_iff]; omega
    simp only [allByte, prtBytes, List.all_cons, List.all_nil, z2, a1, a2, Bool.and_self]
  · rw [if_neg h9]
    by_cases h11 : m.h.ty = 11
    · rw [if_pos h11]
      simp only [ckZ, Bool.and_eq_true] at z3
      simp only [allByte, annBytes, List.all_cons, List.all_nil, hq, z3, h0, Bool.and_self]
    · rw [if_neg h11]; rfl
end Go.Proofs.Ythjldfmlclpdbaa

set_option maxRecDepth 100000
set_option linter.unusedSimpArgs false
set_option linter.unusedVariables false
namespace Go.Proofs.Ythjldfmlclpdbaa
open Go.Rx

def stmPutS : Rx.Spec := fun a b => match a, b with
  | [v], [] => match Stm.of v with
    | some t => .need (stmB t) (.leaf ⟨.tup [.sl 0 0 0 1 10 (some 10), .int .i64 0], [], [.cells [.int .u8 (byteAt t.sec 5), .int .u8 (byteAt t.sec 4), .int .u8 (byteAt t.sec 3), .int .u8 (byteAt t.sec 2), .int .u8 (byteAt t.sec 1), .int .u8 (byteAt t.sec 0),
      .int .u8 (byteAt t.ns 3), .int .u8 (byteAt t.ns 2), .int .u8 (byteAt t.ns 1), .int .u8 (byteAt t.ns 0)]]⟩)
    | none => .fail
  | _, _ => .fail
theorem u8_at (n : Int) (k : Nat) : IntKind.u8.wrap (n.fdiv (2 ^ (8 * k))) = byteAt n k := by
  rw [IntKind.wrap_u8]
  unfold byteAt
  congr 1
  rw [Int.fdiv_eq_ediv_of_nonneg]
  exact Int.le_of_lt (Int.pow_pos (by omega))
theorem stG : GammaOK P [(29, stmS)] := .cons stm_ok (.nil P)
theorem stmPut_ok : SpecOK P 21 stmPutS := by
  refine specOK_fast stG hm (Λ := loopsOf [(firstRegion (loopAt Try.f21 0), fUnroll P (specsOf [(29, stmS)]) (loopsOf []) Try.f21 (loopAt Try.f21 0) 11)]) Try.func21 (by kernel_rfl) (LoopsOK.one (by kernel_rfl) (fUnroll_ok stG hm (LoopsOK.nil (by kernel_rfl)) _ _)) ?_
  intro args bs r h
  unfold stmPutS at h
  split at h
  · split at h
    · rename_i v t ht
      rw [Stm.of_eq ht]
      rw [den_need, den_leaf] at h
      obtain ⟨hs, rfl⟩ := h
      rw [show (fFn P (specsOf [(29, stmS)]) (loopsOf [(firstRegion (loopAt Try.f21 0), fUnroll P (specsOf [(29, stmS)]) (loopsOf []) Try.f21 (loopAt Try.f21 0) 11)]) Try.f21 [t.v] []).denN = Tree.denN (Tree.ite (!stmB t) (Tree.leaf { v := V.tup [V.sl 0 0 0 1 0 none, V.int IntKind.i64 20], upd := [], new := [Body.ints IntKind.u8 []] }) (Tree.leaf { v := V.tup [V.sl 0 0 0 1 10 (some 10), V.int IntKind.i64 0], upd := [], new := [Body.cells [V.int IntKind.u8 (if 9 = 0 then IntKind.u8.wrap (t.2.fdiv 1) else if 8 = 0 then IntKind.u8.wrap (t.2.fdiv 256) else if 7 = 0 then IntKind.u8.wrap (t.2.fdiv 65536) else if 6 = 0 then IntKind.u8.wrap (t.2.fdiv 16777216) else if 5 = 0 then IntKind.u8.wrap (t.1.fdiv 1) else if 4 = 0 then IntKind.u8.wrap (t.1.fdiv 256) else if 3 = 0 then IntKind.u8.wrap (t.1.fdiv 65536) else if 2 = 0 then IntKind.u8.wrap (t.1.fdiv 16777216) else if 1 = 0 then IntKind.u8.wrap (t.1.fdiv 4294967296) else if 0 = 0 then IntKind.u8.wrap (t.1.fdiv 1099511627776) else 0), V.int IntKind.u8 (if 9 = 1 then IntKind.u8.wrap (t.2.fdiv 1) else if 8 = 1 then IntKind.u8.wrap (t.2.fdiv 256) else if 7 = 1 then IntKind.u8.wrap (t.2.fdiv 65536) else if 6 = 1 then IntKind.u8.wrap (t.2.fdiv 16777216) else if 5 = 1 then IntKind.u8.wrap (t.1.fdiv 1) else if 4 = 1 then IntKind.u8.wrap (t.1.fdiv 256) else if 3 = 1 then IntKind.u8.wrap (t.1.fdiv 65536) else if 2 = 1 then IntKind.u8.wrap (t.1.fdiv 16777216) else if 1 = 1 then IntKind.u8.wrap (t.1.fdiv 4294967296) else if 0 = 1 then IntKind.u8.wrap (t.1.fdiv 1099511627776) else 0), V.int IntKind.u8 (if 9 = 2 then IntKind.u8.wrap (t.2.fdiv 1) else if 8 = 2 then IntKind.u8.wrap (t.2.fdiv 256) else if 7 = 2 then IntKind.u8.wrap (t.2.fdiv 65536) else if 6 = 2 then IntKind.u8.wrap (t.2.fdiv 16777216) else if 5 = 2 then IntKind.u8.wrap (t.1.fdiv 1) else if 4 = 2 then IntKind.u8.wrap (t.1.fdiv 256) else if 3 = 2 then IntKind.u8.wrap (t.1.fdiv 65536) else if 2 = 2 then IntKind.u8.wrap (t.1.fdiv 16777216) else if 1 = 2 then IntKind.u8.wrap (t.1.fdiv 4294967296) else if 0 = 2 then IntKind.u8.wrap (t.1.fdiv 1099511627776) else 0), V.int IntKind.u8 (if 9 = 3 then IntKind.u8.wrap (t.2.fdiv 1) else if 8 = 3 then IntKind.u8.wrap (t.2.fdiv 256) else if 7 = 3 then IntKind.u8.wrap (t.2.fdiv 65536) else if 6 = 3 then IntKind.u8.wrap (t.2.fdiv 16777216) else if 5 = 3 then IntKind.u8.wrap (t.1.fdiv 1) else if 4 = 3 then IntKind.u8.wrap (t.1.fdiv 256) else if 3 = 3 then IntKind.u8.wrap (t.1.fdiv 65536) else if 2 = 3 then IntKind.u8.wrap (t.1.fdiv 16777216) else if 1 = 3 then IntKind.u8.wrap (t.1.fdiv 4294967296) else if 0 = 3 then IntKind.u8.wrap (t.1.fdiv 1099511627776) else 0), V.int IntKind.u8 (if 9 = 4 then IntKind.u8.wrap (t.2.fdiv 1) else if 8 = 4 then IntKind.u8.wrap (t.2.fdiv 256) else if 7 = 4 then IntKind.u8.wrap (t.2.fdiv 65536) else if 6 = 4 then IntKind.u8.wrap (t.2.fdiv 16777216) else if 5 = 4 then IntKind.u8.wrap (t.1.fdiv 1) else if 4 = 4 then IntKind.u8.wrap (t.1.fdiv 256) else if 3 = 4 then IntKind.u8.wrap (t.1.fdiv 65536) else if 2 = 4 then IntKind.u8.wrap (t.1.fdiv 16777216) else if 1 = 4 then IntKind.u8.wrap (t.1.fdiv 4294967296) else if 0 = 4 then IntKind.u8.wrap (t.1.fdiv 1099511627776) else 0), V.int IntKind.u8 (if 9 = 5 then IntKind.u8.wrap (t.2.fdiv 1) else if 8 = 5 then IntKind.u8.wrap (t.2.fdiv 256) else if 7 = 5 then IntKind.u8.wrap (t.2.fdiv 65536) else if 6 = 5 then IntKind.u8.wrap (t.2.fdiv 16777216) else if 5 = 5 then IntKind.u8.wrap (t.1.fdiv 1) else if 4 = 5 then IntKind.u8.wrap (t.1.fdiv 256) else if 3 = 5 then IntKind.u8.wrap (t.1.fdiv 65536) else if 2 = 5 then IntKind.u8.wrap (t.1.fdiv 16777216) else if 1 = 5 then IntKind.u8.wrap (t.1.fdiv 4294967296) else if 0 = 5 then IntKind.u8.wrap (t.1.fdiv 1099511627776) else 0), V.int IntKind.u8 (if 9 = 6 then IntKind.u8.wrap (t.2.fdiv 1) else if 8 = 6 then IntKind.u8.wrap (t.2.fdiv 256) else if 7 = 6 then IntKind.u8.wrap (t.2.fdiv 65536) else if 6 = 6 then IntKind.u8.wrap (t.2.fdiv 16777216) else if 5 = 6 then IntKind.u8.wrap (t.1.fdiv 1) else if 4 = 6 then IntKind.u8.wrap (t.1.fdiv 256) else if 3 = 6 then IntKind.u8.wrap (t.1.fdiv 65536) else if 2 = 6 then IntKind.u8.wrap (t.1.fdiv 16777216) else if 1 = 6 then IntKind.u8.wrap (t.1.fdiv 4294967296) else if 0 = 6 then IntKind.u8.wrap (t.1.fdiv 1099511627776) else 0), V.int IntKind.u8 (if 9 = 7 then IntKind.u8.wrap (t.2.fdiv 1) else if 8 = 7 then IntKind.u8.wrap (t.2.fdiv 256) else if 7 = 7 then IntKind.u8.wrap (t.2.fdiv 65536) else if 6 = 7 then IntKind.u8.wrap (t.2.fdiv 16777216) else if 5 = 7 then IntKind.u8.wrap (t.1.fdiv 1) else if 4 = 7 then IntKind.u8.wrap (t.1.fdiv 256) else if 3 = 7 then IntKind.u8.wrap (t.1.fdiv 65536) else if 2 = 7 then IntKind.u8.wrap (t.1.fdiv 16777216) else if 1 = 7 then IntKind.u8.wrap (t.1.fdiv 4294967296) else if 0 = 7 then IntKind.u8.wrap (t.1.fdiv 1099511627776) else 0), V.int IntKind.u8 (if 9 = 8 then IntKind.u8.wrap (t.2.fdiv 1) else if 8 = 8 then IntKind.u8.wrap (t.2.fdiv 256) else if 7 = 8 then IntKind.u8.wrap (t.2.fdiv 65536) else if 6 = 8 then IntKind.u8.wrap (t.2.fdiv 16777216) else if 5 = 8 then IntKind.u8.wrap (t.1.fdiv 1) else if 4 = 8 then IntKind.u8.wrap (t.1.fdiv 256) else if 3 = 8 then IntKind.u8.wrap (t.1.fdiv 65536) else if 2 = 8 then IntKind.u8.wrap (t.1.fdiv 16777216) else if 1 = 8 then IntKind.u8.wrap (t.1.fdiv 4294967296) else if 0 = 8 then IntKind.u8.wrap (t.1.fdiv 1099511627776) else 0), V.int IntKind.u8 (if 9 = 9 then IntKind.u8.wrap (t.2.fdiv 1) else if 8 = 9 then IntKind.u8.wrap (t.2.fdiv 256) else if 7 = 9 then IntKind.u8.wrap (t.2.fdiv 65536) else if 6 = 9 then IntKind.u8.wrap (t.2.fdiv 16777216) else if 5 = 9 then IntKind.u8.wrap (t.1.fdiv 1) else if 4 = 9 then IntKind.u8.wrap (t.1.fdiv 256) else if 3 = 9 then IntKind.u8.wrap (t.1.fdiv 65536) else if 2 = 9 then IntKind.u8.wrap (t.1.fdiv 16777216) else if 1 = 9 then IntKind.u8.wrap (t.1.fdiv 4294967296) else if 0 = 9 then IntKind.u8.wrap (t.1.fdiv 1099511627776) else 0)]] })) from by kernel_rfl]
      simp only [denN_ite, denN_leaf, denN_fail]
      rw [if_neg (by simp [hs])]
      have sec0 : IntKind.u8.wrap (t.sec.fdiv 1) = byteAt t.sec 0 := u8_at t.sec 0
      have sec1 : IntKind.u8.wrap (t.sec.fdiv 256) = byteAt t.sec 1 := u8_at t.sec 1
      have sec2 : IntKind.u8.wrap (t.sec.fdiv 65536) = byteAt t.sec 2 := u8_at t.sec 2
      have sec3 : IntKind.u8.wrap (t.sec.fdiv 16777216) = byteAt t.sec 3 := u8_at t.sec 3
      have sec4 : IntKind.u8.wrap (t.sec.fdiv 4294967296) = byteAt t.sec 4 := u8_at t.sec 4
      have sec5 : IntKind.u8.wrap (t.sec.fdiv 1099511627776) = byteAt t.sec 5 := u8_at t.sec 5
      have ns0 : IntKind.u8.wrap (t.ns.fdiv 1) = byteAt t.ns 0 := u8_at t.ns 0
      have ns1 : IntKind.u8.wrap (t.ns.fdiv 256) = byteAt t.ns 1 := u8_at t.ns 1
      have ns2 : IntKind.u8.wrap (t.ns.fdiv 65536) = byteAt t.ns 2 := u8_at t.ns 2
      have ns3 : IntKind.u8.wrap (t.ns.fdiv 16777216) = byteAt t.ns 3 := u8_at t.ns 3
      simp only [sec0, sec1, sec2, sec3, sec4, sec5, ns0, ns1, ns2, ns3]
      rfl
    · simp [den_fail] at h
  · simp [den_fail] at h
end Go.Proofs.Ythjldfmlclpdbaa

set_option maxRecDepth 100000
set_option linter.unusedSimpArgs false
set_option linter.unusedVariables false
namespace Go.Proofs.Ythjldfmlclpdbaa
open Go.Rx

theorem byteAt_div (n : Int) (k : Nat) : byteAt (n / 256) k = byteAt n (k + 1) := by
  unfold byteAt
  rw [Int.ediv_ediv, if_neg (by omega), Int.sub_zero, show 8 * (k + 1) = 8 + 8 * k by omega, Int.pow_add]
  rfl
theorem beBytes_low (n : Int) : ∀ k, beBytes n (k + 1) = beBytes (n / 256) k ++ [byteAt n 0]
  | 0 => rfl
  | k + 1 => by
    show byteAt n (k + 1) :: beBytes n (k + 1) = _
    rw [beBytes_low n k]
    show _ = byteAt (n / 256) k :: beBytes (n / 256) k ++ [byteAt n 0]
    rw [byteAt_div]
    rfl
def numStrS (k : Nat) : Rx.Spec := fun a b => match a, b with
  | [.int .i64 n, .int .i64 l], [] => .need (decide (0 ≤ n) && decide (n ≤ 9223372036854775807) && decide (0 ≤ l) && decide (l ≤ (k : Int)) && decide (l ≤ 8)) (.leaf ⟨.str (bytesOf (beBytes n l.toNat)), [], []⟩)
  | _, _ => .fail
theorem bytesOf_size (xs : List Int) : (bytesOf xs).size = xs.length := by simp [bytesOf, ByteArray.size]
theorem numStr_ok : ∀ k, SpecOK P 49 (numStrS k)
  | 0 => by
    refine specOK_fast (GammaOK.nil P) hm (Λ := loopsOf []) Try.func49 (by kernel_rfl) (LoopsOK.nil (by kernel_rfl)) ?_
    intro args bs r h
    unfold numStrS at h
    split at h
    · rename_i n l
      rw [den_need, den_leaf] at h
      obtain ⟨hs, rfl⟩ := h
      simp only [Bool.and_eq_true, decide_eq_true_eq] at hs
      obtain rfl : l = 0 := by omega
      kernel_rfl
    · simp [den_fail] at h
  | k + 1 => by
    have ih := numStr_ok k
    refine specOK_fast (.cons ih (.nil P)) hm (Λ := loopsOf []) Try.func49 (by kernel_rfl) (LoopsOK.nil (by kernel_rfl)) ?_
    intro args bs r h
    unfold numStrS at h
    split at h
    · rename_i n l
      rw [den_need, den_leaf] at h
      obtain ⟨hs, rfl⟩ := h
      simp only [Bool.and_eq_true, decide_eq_true_eq] at hs
      rw [show (fFn P (specsOf [(49, numStrS k)]) (loopsOf []) Try.f49 [.int .i64 n, .int .i64 l] []).denN = Tree.denN (Tree.ite (l == 0) (Tree.leaf { v := V.str { data := #[] }, upd := [], new := [] }) (Tree.ite (decide (0 ≤ IntKind.i64.wrap (n.tdiv 256)) && decide (IntKind.i64.wrap (n.tdiv 256) ≤ 9223372036854775807) && decide (0 ≤ IntKind.i64.wrap (l - 1)) && decide (IntKind.i64.wrap (l - 1) ≤ (↑k : Int)) && decide (IntKind.i64.wrap (l - 1) ≤ 8)) (Tree.ite (decide ((bytesOf (beBytes (IntKind.i64.wrap (n.tdiv 256)) (IntKind.i64.wrap (l - 1)).toNat)).size + 1 ≤ 9223372036854775807)) (Tree.leaf { v := V.str (bytesOf (beBytes (IntKind.i64.wrap (n.tdiv 256)) (IntKind.i64.wrap (l - 1)).toNat) ++ bytesOf (List.take 1 (List.drop 0 [IntKind.u8.wrap (n.tmod 256)]))), upd := [], new := [] }) Tree.fail) Tree.fail)) from by kernel_rfl]
      simp only [denN_ite, denN_leaf, denN_fail]
      by_cases h0 : l = 0
      · subst h0
        rw [if_pos (by simp)]
        rfl
      · obtain ⟨j, rfl⟩ : ∃ j : Nat, l = (j : Int) + 1 := ⟨(l - 1).toNat, by omega⟩
        have e1 : n.tdiv 256 = n / 256 := Int.tdiv_eq_ediv_of_nonneg hs.1.1.1.1
        have e2 : n.tmod 256 = n % 256 := Int.tmod_eq_emod_of_nonneg hs.1.1.1.1
        have e3 : IntKind.i64.wrap (n / 256) = n / 256 := wrap64_id (by omega) (by omega)
        have e4 : IntKind.i64.wrap ((j : Int) + 1 - 1) = j := by rw [wrap64_id (by omega) (by omega)]; omega
        have e5 : ((j : Int) + 1).toNat = j + 1 := by omega
        have e6 : IntKind.u8.wrap (n % 256) = byteAt n 0 := by rw [IntKind.wrap_u8]; simp [byteAt]
        rw [if_neg (by simp; omega), e1, e2, e3, e4, e5, e6, Int.toNat_natCast, bytesOf_size, beBytes_length]
        rw [if_pos (by simp; omega), if_pos (by simp; omega), beBytes_low, bytesOf_append]
        rfl
    · simp [den_fail] at h
end Go.Proofs.Ythjldfmlclpdbaa

set_option maxRecDepth 100000
set_option linter.unusedSimpArgs false
set_option linter.unusedVariables false
namespace Go.Proofs.Ythjldfmlclpdbaa
open Go.Rx

def refPutStS : Rx.Spec := fun a b => match a, b with
  | [v], [] => match Stm.of v with
    | some t => .need (stmB t) (.leaf ⟨.tup [.sl 0 0 0 1 10 none, .int .i64 0], [], [.ints .u8 (stmBytes t)]⟩)
    | none => .fail
  | _, _ => .fail
theorem rp_G : GammaOK P [(32, stmS), (49, numStrS 6)] := .cons refStm_ok (.cons (numStr_ok 6) (.nil P))
theorem refPutSt_ok : SpecOK P 24 refPutStS := by
  refine specOK_fast rp_G hm (Λ := loopsOf []) Try.func24 (by kernel_rfl) (LoopsOK.nil (by kernel_rfl)) ?_
  intro args bs r h
  unfold refPutStS at h
  split at h
  · split at h
    · rename_i v t ht
      rw [Stm.of_eq ht]
      rw [den_need, den_leaf] at h
      obtain ⟨hs, rfl⟩ := h
      rw [show (fFn P (specsOf [(32, stmS), (49, numStrS 6)]) (loopsOf []) Try.f24 [t.v] []).denN = Tree.denN (Tree.ite (!stmB t) (Tree.leaf { v := V.tup [V.sl 0 0 0 1 0 none, V.int IntKind.i64 20], upd := [], new := [Body.ints IntKind.u8 []] }) (Tree.ite (decide (0 ≤ t.1) && decide (t.1 ≤ 9223372036854775807) && true && true && true) (Tree.ite (decide (0 ≤ t.2) && decide (t.2 ≤ 9223372036854775807) && true && true && true) (Tree.leaf { v := V.tup [V.sl 0 0 0 1 10 none, V.int IntKind.i64 0], upd := [], new := [Body.ints IntKind.u8 [(↑(UInt8.ofNat (byteAt t.1 5).toNat).toNat : Int), (↑(UInt8.ofNat (byteAt t.1 4).toNat).toNat : Int), (↑(UInt8.ofNat (byteAt t.1 3).toNat).toNat : Int), (↑(UInt8.ofNat (byteAt t.1 2).toNat).toNat : Int), (↑(UInt8.ofNat (byteAt t.1 1).toNat).toNat : Int), (↑(UInt8.ofNat (byteAt t.1 0).toNat).toNat : Int), (↑(UInt8.ofNat (byteAt t.2 3).toNat).toNat : Int), (↑(UInt8.ofNat (byteAt t.2 2).toNat).toNat : Int), (↑(UInt8.ofNat (byteAt t.2 1).toNat).toNat : Int), (↑(UInt8.ofNat (byteAt t.2 0).toNat).toNat : Int)]] }) Tree.fail) Tree.fail)) from by kernel_rfl]
      simp only [denN_ite, denN_leaf, denN_fail]
      have hs' := hs
      simp only [stmB, Bool.and_eq_true, decide_eq_true_eq] at hs'
      have hr := byteAt_range
      have u (n : Int) (k : Nat) : ((UInt8.ofNat (byteAt n k).toNat).toNat : Int) = byteAt n k := by
        have := hr n k
        rw [UInt8.toNat_ofNat_of_lt' (by show _ < 256; omega)]
        omega
      rw [if_neg (by simp [hs]), if_pos (by simp; omega), if_pos (by simp; omega)]
      simp only [u]
      rfl
    · simp [den_fail] at h
  · simp [den_fail] at h

theorem or1 {x : Int} (h0 : 0 ≤ x) (h1 : x ≤ 255) : bOr .i64 0 (IntKind.i64.wrap x) = x := by
  rw [wrap64_id (by omega) (by omega), bOr_byte 0 x (by omega) (by omega) (by omega)]
  rw [Int.zero_add, wrap64_id (by omega) (by omega)]
theorem orS {a x : Int} (h0 : 0 ≤ x) (h1 : x ≤ 255) (h2 : 0 ≤ a) (h3 : a ≤ 140737488355327) : bOr .i64 (IntKind.i64.wrap (a * 256)) (IntKind.i64.wrap x) = a * 256 + x := by
  rw [wrap64_id (n := x) (by omega) (by omega), wrap64_id (n := a * 256) (by omega) (by omega), bOr_byte _ x (by omega) (by omega) (by omega), wrap64_id (by omega) (by omega)]
theorem va1 {x : Int} (h0 : 0 ≤ x) (h1 : x ≤ 255) : IntKind.i64.wrap (0 + IntKind.i64.wrap x) = x := by
  rw [wrap64_id (n := x) (by omega) (by omega), Int.zero_add, wrap64_id (by omega) (by omega)]
theorem vaS {a x : Int} (h0 : 0 ≤ x) (h1 : x ≤ 255) (h2 : 0 ≤ a) (h3 : a ≤ 140737488355327) : IntKind.i64.wrap (IntKind.i64.wrap (a * 256) + IntKind.i64.wrap x) = a * 256 + x := by
  rw [wrap64_id (n := x) (by omega) (by omega), wrap64_id (n := a * 256) (by omega) (by omega), wrap64_id (by omega) (by omega)]
theorem or4 {b0 b1 b2 b3 : Int} (h0 : 0 ≤ b0 ∧ b0 ≤ 255) (h1 : 0 ≤ b1 ∧ b1 ≤ 255) (h2 : 0 ≤ b2 ∧ b2 ≤ 255) (h3 : 0 ≤ b3 ∧ b3 ≤ 255) : bOr .i64 (IntKind.i64.wrap ((bOr .i64 (IntKind.i64.wrap ((bOr .i64 (IntKind.i64.wrap ((bOr .i64 0 (IntKind.i64.wrap b0)) * 256)) (IntKind.i64.wrap b1)) * 256)) (IntKind.i64.wrap b2)) * 256)) (IntKind.i64.wrap b3) = sumF 0 [b0, b1, b2, b3] := by
  rw [or1 h0.1 h0.2, orS h1.1 h1.2 (by omega) (by omega), orS h2.1 h2.2 (by omega) (by omega), orS h3.1 h3.2 (by omega) (by omega)]
  simp only [sumF, List.foldl_cons, List.foldl_nil, Int.zero_mul, Int.zero_add]
theorem va4 {b0 b1 b2 b3 : Int} (h0 : 0 ≤ b0 ∧ b0 ≤ 255) (h1 : 0 ≤ b1 ∧ b1 ≤ 255) (h2 : 0 ≤ b2 ∧ b2 ≤ 255) (h3 : 0 ≤ b3 ∧ b3 ≤ 255) : IntKind.i64.wrap (IntKind.i64.wrap ((IntKind.i64.wrap (IntKind.i64.wrap ((IntKind.i64.wrap (IntKind.i64.wrap ((IntKind.i64.wrap (0 + IntKind.i64.wrap b0)) * 256) + IntKind.i64.wrap b1)) * 256) + IntKind.i64.wrap b2)) * 256) + IntKind.i64.wrap b3) = sumF 0 [b0, b1, b2, b3] := by
  rw [va1 h0.1 h0.2, vaS h1.1 h1.2 (by omega) (by omega), vaS h2.1 h2.2 (by omega) (by omega), vaS h3.1 h3.2 (by omega) (by omega)]
  simp only [sumF, List.foldl_cons, List.foldl_nil, Int.zero_mul, Int.zero_add]
theorem or6 {b0 b1 b2 b3 b4 b5 : Int} (h0 : 0 ≤ b0 ∧ b0 ≤ 255) (h1 : 0 ≤ b1 ∧ b1 ≤ 255) (h2 : 0 ≤ b2 ∧ b2 ≤ 255) (h3 : 0 ≤ b3 ∧ b3 ≤ 255) (h4 : 0 ≤ b4 ∧ b4 ≤ 255) (h5 : 0 ≤ b5 ∧ b5 ≤ 255) : bOr .i64 (IntKind.i64.wrap ((bOr .i64 (IntKind.i64.wrap ((bOr .i64 (IntKind.i64.wrap ((bOr .i64 (IntKind.i64.wrap ((bOr .i64 (IntKind.i64.wrap ((bOr .i64 0 (IntKind.i64.wrap b0)) * 256)) (IntKind.i64.wrap b1)) * 256)) (IntKind.i64.wrap b2)) * 256)) (IntKind.i64.wrap b3)) * 256)) (IntKind.i64.wrap b4)) * 256)) (IntKind.i64.wrap b5) = sumF 0 [b0, b1, b2, b3, b4, b5] := by
  rw [or1 h0.1 h0.2, orS h1.1 h1.2 (by omega) (by omega), orS h2.1 h2.2 (by omega) (by omega), orS h3.1 h3.2 (by omega) (by omega), orS h4.1 h4.2 (by omega) (by omega), orS h5.1 h5.2 (by omega) (by omega)]
  simp only [sumF, List.foldl_cons, List.foldl_nil, Int.zero_mul, Int.zero_add]
theorem va6 {b0 b1 b2 b3 b4 b5 : Int} (h0 : 0 ≤ b0 ∧ b0 ≤ 255) (h1 : 0 ≤ b1 ∧ b1 ≤ 255) (h2 : 0 ≤ b2 ∧ b2 ≤ 255) (h3 : 0 ≤ b3 ∧ b3 ≤ 255) (h4 : 0 ≤ b4 ∧ b4 ≤ 255) (h5 : 0 ≤ b5 ∧ b5 ≤ 255) : IntKind.i64.wrap (IntKind.i64.wrap ((IntKind.i64.wrap (IntKind.i64.wrap ((IntKind.i64.wrap (IntKind.i64.wrap ((IntKind.i64.wrap (IntKind.i64.wrap ((IntKind.i64.wrap (IntKind.i64.wrap ((IntKind.i64.wrap (0 + IntKind.i64.wrap b0)) * 256) + IntKind.i64.wrap b1)) * 256) + IntKind.i64.wrap b2)) * 256) + IntKind.i64.wrap b3)) * 256) + IntKind.i64.wrap b4)) * 256) + IntKind.i64.wrap b5) = sumF 0 [b0, b1, b2, b3, b4, b5] := by
  rw [va1 h0.1 h0.2, vaS h1.1 h1.2 (by omega) (by omega), vaS h2.1 h2.2 (by omega) (by omega), vaS h3.1 h3.2 (by omega) (by omega), vaS h4.1 h4.2 (by omega) (by omega), vaS h5.1 h5.2 (by omega) (by omega)]
  simp only [sumF, List.foldl_cons, List.foldl_nil, Int.zero_mul, Int.zero_add]

def getStS : Rx.Spec := fun a b => match a, b with
  | [.sl 0 i 0 1 10 cap], [.ints .u8 xs] => .need (allByte xs && decide (i + 10 ≤ xs.length))
      (.ite (decide (sumF 0 (bytesAt xs (i + 6) 4) ≤ 999999999)) (.leaf ⟨.tup [(⟨sumF 0 (bytesAt xs i 6), sumF 0 (bytesAt xs (i + 6) 4)⟩ : Stm).v, .int .i64 0], [none], []⟩) (.leaf ⟨.tup [Stm.zero.v, .int .i64 20], [none], []⟩))
  | _, _ => .fail
theorem getSt_ok : SpecOK P 39 getStS := by
  refine specOK_fast stG hm (Λ := loopsOf [(firstRegion (loopAt Try.f39 0), fUnroll P (specsOf [(29, stmS)]) (loopsOf []) Try.f39 (loopAt Try.f39 0) 11)]) Try.func39 (by kernel_rfl) (LoopsOK.one (by kernel_rfl) (fUnroll_ok stG hm (LoopsOK.nil (by kernel_rfl)) _ _)) ?_
  intro args bs r h
  unfold getStS at h
  split at h
  · rename_i i cap xs
    rw [den_need] at h
    obtain ⟨hs, h⟩ := h
    rw [← denN_of h]
    rw [show (fFn P (specsOf [(29, stmS)]) (loopsOf [(firstRegion (loopAt Try.f39 0), fUnroll P (specsOf [(29, stmS)]) (loopsOf []) Try.f39 (loopAt Try.f39 0) 11)]) Try.f39 [.sl 0 i 0 1 10 cap] [.ints .u8 xs]).denN = Tree.denN (Tree.ite (decide (i + 0 + 1 ≤ xs.length)) (Tree.ite (decide (i + 1 + 1 ≤ xs.length)) (Tree.ite (decide (i + 2 + 1 ≤ xs.length)) (Tree.ite (decide (i + 3 + 1 ≤ xs.length)) (Tree.ite (decide (i + 4 + 1 ≤ xs.length)) (Tree.ite (decide (i + 5 + 1 ≤ xs.length)) (Tree.ite (decide (i + 6 + 1 ≤ xs.length)) (Tree.ite (decide (i + 7 + 1 ≤ xs.length)) (Tree.ite (decide (i + 8 + 1 ≤ xs.length)) (Tree.ite (decide (i + 9 + 1 ≤ xs.length)) (Tree.ite (!(bOr IntKind.i64 (IntKind.i64.wrap (bOr IntKind.i64 (IntKind.i64.wrap (bOr IntKind.i64 (IntKind.i64.wrap (bOr IntKind.i64 (IntKind.i64.wrap (bOr IntKind.i64 (IntKind.i64.wrap (bOr IntKind.i64 0 (IntKind.i64.wrap (xs.getD (i + 0 + 0) 0)) * 256)) (IntKind.i64.wrap (xs.getD (i + 1 + 0) 0)) * 256)) (IntKind.i64.wrap (xs.getD (i + 2 + 0) 0)) * 256)) (IntKind.i64.wrap (xs.getD (i + 3 + 0) 0)) * 256)) (IntKind.i64.wrap (xs.getD (i + 4 + 0) 0)) * 256)) (IntKind.i64.wrap (xs.getD (i + 5 + 0) 0)) == 0 && (bOr IntKind.i64 (IntKind.i64.wrap (bOr IntKind.i64 (IntKind.i64.wrap (bOr IntKind.i64 (IntKind.i64.wrap (bOr IntKind.i64 0 (IntKind.i64.wrap (xs.getD (i + 6 + 0) 0)) * 256)) (IntKind.i64.wrap (xs.getD (i + 7 + 0) 0)) * 256)) (IntKind.i64.wrap (xs.getD (i + 8 + 0) 0)) * 256)) (IntKind.i64.wrap (xs.getD (i + 9 + 0) 0)) == 0 && true))) (Tree.ite (!stmB { sec := bOr IntKind.i64 (IntKind.i64.wrap (bOr IntKind.i64 (IntKind.i64.wrap (bOr IntKind.i64 (IntKind.i64.wrap (bOr IntKind.i64 (IntKind.i64.wrap (bOr IntKind.i64 (IntKind.i64.wrap (bOr IntKind.i64 0 (IntKind.i64.wrap (xs.getD (i + 0 + 0) 0)) * 256)) (IntKind.i64.wrap (xs.getD (i + 1 + 0) 0)) * 256)) (IntKind.i64.wrap (xs.getD (i + 2 + 0) 0)) * 256)) (IntKind.i64.wrap (xs.getD (i + 3 + 0) 0)) * 256)) (IntKind.i64.wrap (xs.getD (i + 4 + 0) 0)) * 256)) (IntKind.i64.wrap (xs.getD (i + 5 + 0) 0)), ns := bOr IntKind.i64 (IntKind.i64.wrap (bOr IntKind.i64 (IntKind.i64.wrap (bOr IntKind.i64 (IntKind.i64.wrap (bOr IntKind.i64 0 (IntKind.i64.wrap (xs.getD (i + 6 + 0) 0)) * 256)) (IntKind.i64.wrap (xs.getD (i + 7 + 0) 0)) * 256)) (IntKind.i64.wrap (xs.getD (i + 8 + 0) 0)) * 256)) (IntKind.i64.wrap (xs.getD (i + 9 + 0) 0)) }) (Tree.leaf { v := V.tup [V.agg [V.int IntKind.i64 0, V.int IntKind.i64 0], V.int IntKind.i64 20], upd := [none], new := [] }) (Tree.leaf { v := V.tup [V.agg [V.int IntKind.i64 (bOr IntKind.i64 (IntKind.i64.wrap (bOr IntKind.i64 (IntKind.i64.wrap (bOr IntKind.i64 (IntKind.i64.wrap (bOr IntKind.i64 (IntKind.i64.wrap (bOr IntKind.i64 (IntKind.i64.wrap (bOr IntKind.i64 0 (IntKind.i64.wrap (xs.getD (i + 0 + 0) 0)) * 256)) (IntKind.i64.wrap (xs.getD (i + 1 + 0) 0)) * 256)) (IntKind.i64.wrap (xs.getD (i + 2 + 0) 0)) * 256)) (IntKind.i64.wrap (xs.getD (i + 3 + 0) 0)) * 256)) (IntKind.i64.wrap (xs.getD (i + 4 + 0) 0)) * 256)) (IntKind.i64.wrap (xs.getD (i + 5 + 0) 0))), V.int IntKind.i64 (bOr IntKind.i64 (IntKind.i64.wrap (bOr IntKind.i64 (IntKind.i64.wrap (bOr IntKind.i64 (IntKind.i64.wrap (bOr IntKind.i64 0 (IntKind.i64.wrap (xs.getD (i + 6 + 0) 0)) * 256)) (IntKind.i64.wrap (xs.getD (i + 7 + 0) 0)) * 256)) (IntKind.i64.wrap (xs.getD (i + 8 + 0) 0)) * 256)) (IntKind.i64.wrap (xs.getD (i + 9 + 0) 0)))], V.int IntKind.i64 0], upd := [none], new := [] })) (Tree.leaf { v := V.tup [V.agg [V.int IntKind.i64 (bOr IntKind.i64 (IntKind.i64.wrap (bOr IntKind.i64 (IntKind.i64.wrap (bOr IntKind.i64 (IntKind.i64.wrap (bOr IntKind.i64 (IntKind.i64.wrap (bOr IntKind.i64 (IntKind.i64.wrap (bOr IntKind.i64 0 (IntKind.i64.wrap (xs.getD (i + 0 + 0) 0)) * 256)) (IntKind.i64.wrap (xs.getD (i + 1 + 0) 0)) * 256)) (IntKind.i64.wrap (xs.getD (i + 2 + 0) 0)) * 256)) (IntKind.i64.wrap (xs.getD (i + 3 + 0) 0)) * 256)) (IntKind.i64.wrap (xs.getD (i + 4 + 0) 0)) * 256)) (IntKind.i64.wrap (xs.getD (i + 5 + 0) 0))), V.int IntKind.i64 (bOr IntKind.i64 (IntKind.i64.wrap (bOr IntKind.i64 (IntKind.i64.wrap (bOr IntKind.i64 (IntKind.i64.wrap (bOr IntKind.i64 0 (IntKind.i64.wrap (xs.getD (i + 6 + 0) 0)) * 256)) (IntKind.i64.wrap (xs.getD (i + 7 + 0) 0)) * 256)) (IntKind.i64.wrap (xs.getD (i + 8 + 0) 0)) * 256)) (IntKind.i64.wrap (xs.getD (i + 9 + 0) 0)))], V.int IntKind.i64 0], upd := [none], new := [] })) Tree.fail) Tree.fail) Tree.fail) Tree.fail) Tree.fail) Tree.fail) Tree.fail) Tree.fail) Tree.fail) Tree.fail) from by kernel_rfl]
    simp only [denN_ite, denN_leaf, denN_fail]
    simp only [Bool.and_eq_true, decide_eq_true_eq] at hs
    have g := allByte_getD hs.1
    simp only [Nat.add_zero, Nat.add_assoc, Nat.reduceAdd, Nat.zero_add]
    have eb : bytesAt xs i 6 = [xs.getD i 0, xs.getD (i + 1) 0, xs.getD (i + 2) 0, xs.getD (i + 3) 0, xs.getD (i + 4) 0, xs.getD (i + 5) 0] := rfl
    have ec : bytesAt xs (i + 6) 4 = [xs.getD (i + 6) 0, xs.getD (i + 7) 0, xs.getD (i + 8) 0, xs.getD (i + 9) 0] := rfl
    rw [eb, ec]
    have g0 := g i
    have g1 := g (i + 1)
    have g2 := g (i + 2)
    have g3 := g (i + 3)
    have g4 := g (i + 4)
    have g5 := g (i + 5)
    have g6 := g (i + 6)
    have g7 := g (i + 7)
    have g8 := g (i + 8)
    have g9 := g (i + 9)
    have hlen := hs.2
    clear hs h eb ec g
    generalize xs.getD i 0 = b0 at *
    generalize xs.getD (i + 1) 0 = b1 at *
    generalize xs.getD (i + 2) 0 = b2 at *
    generalize xs.getD (i + 3) 0 = b3 at *
    generalize xs.getD (i + 4) 0 = b4 at *
    generalize xs.getD (i + 5) 0 = b5 at *
    generalize xs.getD (i + 6) 0 = b6 at *
    generalize xs.getD (i + 7) 0 = b7 at *
    generalize xs.getD (i + 8) 0 = b8 at *
    generalize xs.getD (i + 9) 0 = b9 at *
    rw [or6 g0 g1 g2 g3 g4 g5, or4 g6 g7 g8 g9]
    rw [if_pos (by simp; omega), if_pos (by simp; omega), if_pos (by simp; omega), if_pos (by simp; omega), if_pos (by simp; omega), if_pos (by simp; omega), if_pos (by simp; omega), if_pos (by simp; omega), if_pos (by simp; omega), if_pos (by simp; omega)]
    have hS : 0 ≤ sumF 0 [b0, b1, b2, b3, b4, b5] ∧ sumF 0 [b0, b1, b2, b3, b4, b5] ≤ 281474976710655 := by simp only [sumF, List.foldl_cons, List.foldl_nil]; omega
    have hN : 0 ≤ sumF 0 [b6, b7, b8, b9] := by simp only [sumF, List.foldl_cons, List.foldl_nil]; omega
    generalize sumF 0 [b0, b1, b2, b3, b4, b5] = S at *
    generalize sumF 0 [b6, b7, b8, b9] = N at *
    by_cases hn : N ≤ 999999999
    · have hst : stmB ⟨S, N⟩ = true := by simp [stmB]; omega
      rw [hst, if_pos (show decide (N ≤ 999999999) = true by simpa using hn)]
      split <;> rfl
    · have hst : stmB ⟨S, N⟩ = false := by simp [stmB]; omega
      rw [hst, if_neg (show ¬ decide (N ≤ 999999999) = true by simpa using hn)]
      rw [if_pos (by simp; omega)]
      rfl
  · simp [den_fail] at h
noncomputable abbrev valLo : Nat → Option LSpec := loopsOf [(firstRegion (loopAt Try.f59 0), fUnroll P (specsOf []) (loopsOf []) Try.f59 (loopAt Try.f59 0) 8)]
noncomputable def valStS : Rx.Spec := fFn P (specsOf []) valLo Try.f59
theorem valSt_ok : SpecOK P 59 valStS := inl_ok (GammaOK.nil P) hm Try.func59 (by kernel_rfl) (LoopsOK.one (by kernel_rfl) (fUnroll_ok (GammaOK.nil P) hm (LoopsOK.nil (by kernel_rfl)) _ _))
theorem rg_G : GammaOK P [(32, stmS), (59, valStS)] := .cons refStm_ok (.cons valSt_ok (.nil P))
theorem refGetSt_ok : SpecOK P 42 getStS := by
  refine specOK_fast rg_G hm (Λ := loopsOf []) Try.func42 (by kernel_rfl) (LoopsOK.nil (by kernel_rfl)) ?_
  intro args bs r h
  unfold getStS at h
  split at h
  · rename_i i cap xs
    rw [den_need] at h
    obtain ⟨hs, h⟩ := h
    rw [← denN_of h]
    rw [show (fFn P (specsOf [(32, stmS), (59, valStS)]) (loopsOf []) Try.f42 [.sl 0 i 0 1 10 cap] [.ints .u8 xs]).denN = Tree.denN (Tree.ite (decide (i + 0 + 0 + 1 ≤ xs.length)) (Tree.ite (decide (i + 0 + 1 + 1 ≤ xs.length)) (Tree.ite (decide (i + 0 + 2 + 1 ≤ xs.length)) (Tree.ite (decide (i + 0 + 3 + 1 ≤ xs.length)) (Tree.ite (decide (i + 0 + 4 + 1 ≤ xs.length)) (Tree.ite (decide (i + 0 + 5 + 1 ≤ xs.length)) (Tree.ite (decide (i + 6 + 0 + 1 ≤ xs.length)) (Tree.ite (decide (i + 6 + 1 + 1 ≤ xs.length)) (Tree.ite (decide (i + 6 + 2 + 1 ≤ xs.length)) (Tree.ite (decide (i + 6 + 3 + 1 ≤ xs.length)) (Tree.ite (!stmB { sec := IntKind.i64.wrap (IntKind.i64.wrap (IntKind.i64.wrap (IntKind.i64.wrap (IntKind.i64.wrap (IntKind.i64.wrap (IntKind.i64.wrap (IntKind.i64.wrap (IntKind.i64.wrap (IntKind.i64.wrap (IntKind.i64.wrap (0 + IntKind.i64.wrap (xs.getD (i + 0 + 0 + 0) 0)) * 256) + IntKind.i64.wrap (xs.getD (i + 0 + 1 + 0) 0)) * 256) + IntKind.i64.wrap (xs.getD (i + 0 + 2 + 0) 0)) * 256) + IntKind.i64.wrap (xs.getD (i + 0 + 3 + 0) 0)) * 256) + IntKind.i64.wrap (xs.getD (i + 0 + 4 + 0) 0)) * 256) + IntKind.i64.wrap (xs.getD (i + 0 + 5 + 0) 0)), ns := IntKind.i64.wrap (IntKind.i64.wrap (IntKind.i64.wrap (IntKind.i64.wrap (IntKind.i64.wrap (IntKind.i64.wrap (IntKind.i64.wrap (0 + IntKind.i64.wrap (xs.getD (i + 6 + 0 + 0) 0)) * 256) + IntKind.i64.wrap (xs.getD (i + 6 + 1 + 0) 0)) * 256) + IntKind.i64.wrap (xs.getD (i + 6 + 2 + 0) 0)) * 256) + IntKind.i64.wrap (xs.getD (i + 6 + 3 + 0) 0)) }) (Tree.leaf { v := V.tup [V.agg [V.int IntKind.i64 0, V.int IntKind.i64 0], V.int IntKind.i64 20], upd := [none], new := [] }) (Tree.leaf { v := V.tup [V.agg [V.int IntKind.i64 (IntKind.i64.wrap (IntKind.i64.wrap (IntKind.i64.wrap (IntKind.i64.wrap (IntKind.i64.wrap (IntKind.i64.wrap (IntKind.i64.wrap (IntKind.i64.wrap (IntKind.i64.wrap (IntKind.i64.wrap (IntKind.i64.wrap (0 + IntKind.i64.wrap (xs.getD (i + 0 + 0 + 0) 0)) * 256) + IntKind.i64.wrap (xs.getD (i + 0 + 1 + 0) 0)) * 256) + IntKind.i64.wrap (xs.getD (i + 0 + 2 + 0) 0)) * 256) + IntKind.i64.wrap (xs.getD (i + 0 + 3 + 0) 0)) * 256) + IntKind.i64.wrap (xs.getD (i + 0 + 4 + 0) 0)) * 256) + IntKind.i64.wrap (xs.getD (i + 0 + 5 + 0) 0))), V.int IntKind.i64 (IntKind.i64.wrap (IntKind.i64.wrap (IntKind.i64.wrap (IntKind.i64.wrap (IntKind.i64.wrap (IntKind.i64.wrap (IntKind.i64.wrap (0 + IntKind.i64.wrap (xs.getD (i + 6 + 0 + 0) 0)) * 256) + IntKind.i64.wrap (xs.getD (i + 6 + 1 + 0) 0)) * 256) + IntKind.i64.wrap (xs.getD (i + 6 + 2 + 0) 0)) * 256) + IntKind.i64.wrap (xs.getD (i + 6 + 3 + 0) 0)))], V.int IntKind.i64 0], upd := [none], new := [] })) Tree.fail) Tree.fail) Tree.fail) Tree.fail) Tree.fail) Tree.fail) Tree.fail) Tree.fail) Tree.fail) Tree.fail) from by kernel_rfl]
    simp only [denN_ite, denN_leaf, denN_fail]
    simp only [Bool.and_eq_true, decide_eq_true_eq] at hs
    have g := allByte_getD hs.1
    simp only [Nat.add_zero, Nat.add_assoc, Nat.reduceAdd, Nat.zero_add]
    have eb : bytesAt xs i 6 = [xs.getD i 0, xs.getD (i + 1) 0, xs.getD (i + 2) 0, xs.getD (i + 3) 0, xs.getD (i + 4) 0, xs.getD (i + 5) 0] := rfl
    have ec : bytesAt xs (i + 6) 4 = [xs.getD (i + 6) 0, xs.getD (i + 7) 0, xs.getD (i + 8) 0, xs.getD (i + 9) 0] := rfl
    rw [eb, ec]
    have g0 := g i
    have g1 := g (i + 1)
    have g2 := g (i + 2)
    have g3 := g (i + 3)
    have g4 := g (i + 4)
    have g5 := g (i + 5)
    have g6 := g (i + 6)
    have g7 := g (i + 7)
    have g8 := g (i + 8)
    have g9 := g (i + 9)
    have hlen := hs.2
    clear hs h eb ec g
    generalize xs.getD i 0 = b0 at *
    generalize xs.getD (i + 1) 0 = b1 at *
    generalize xs.getD (i + 2) 0 = b2 at *
    generalize xs.getD (i + 3) 0 = b3 at *
    generalize xs.getD (i + 4) 0 = b4 at *
    generalize xs.getD (i + 5) 0 = b5 at *
    generalize xs.getD (i + 6) 0 = b6 at *
    generalize xs.getD (i + 7) 0 = b7 at *
    generalize xs.getD (i + 8) 0 = b8 at *
    generalize xs.getD (i + 9) 0 = b9 at *
    rw [va6 g0 g1 g2 g3 g4 g5, va4 g6 g7 g8 g9]
    rw [if_pos (by simp; omega), if_pos (by simp; omega), if_pos (by simp; omega), if_pos (by simp; omega), if_pos (by simp; omega), if_pos (by simp; omega), if_pos (by simp; omega), if_pos (by simp; omega), if_pos (by simp; omega), if_pos (by simp; omega)]
    have hS : 0 ≤ sumF 0 [b0, b1, b2, b3, b4, b5] ∧ sumF 0 [b0, b1, b2, b3, b4, b5] ≤ 281474976710655 := by simp only [sumF, List.foldl_cons, List.foldl_nil]; omega
    have hN : 0 ≤ sumF 0 [b6, b7, b8, b9] := by simp only [sumF, List.foldl_cons, List.foldl_nil]; omega
    generalize sumF 0 [b0, b1, b2, b3, b4, b5] = S at *
    generalize sumF 0 [b6, b7, b8, b9] = N at *
    by_cases hn : N ≤ 999999999
    · have hst : stmB ⟨S, N⟩ = true := by simp [stmB]; omega
      rw [hst, if_pos (show decide (N ≤ 999999999) = true by simpa using hn)]
      rfl
    · have hst : stmB ⟨S, N⟩ = false := by simp [stmB]; omega
      rw [hst, if_neg (show ¬ decide (N ≤ 999999999) = true by simpa using hn)]
      rfl
  · simp [den_fail] at h
end Go.Proofs.Ythjldfmlclpdbaa
