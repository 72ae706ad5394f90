/- Layer 20: flags, the program's. No condition. -/
import Derived.Test.YtkclmkjekllkiaaStA
set_option linter.unusedSimpArgs false
set_option linter.unusedVariables false
set_option linter.unnecessarySimpa false
set_option linter.unusedSectionVars false
set_option maxRecDepth 100000
set_option linter.unusedSimpArgs false
set_option linter.unusedVariables false
namespace Go.Proofs.Ytkclmkjekllkiaa
open Go.Rx

def one (b : Bool) (n : Int) : Int := match b with | true => n | false => 0
def flagsZ (s : Sts) : Int := one s.nt.l61 1 + one s.nt.l59 2 + one s.nt.va 4 + one s.ptp 8 + one s.tra 16 + one s.fre 32
def flS : Rx.Spec := fun a b => match a, b with
  | [v], [] => match Sts.of v with
    | some s => .leaf ⟨.int .i64 (flagsZ s), [], []⟩
    | none => .fail
  | _, _ => .fail
noncomputable abbrev fG : List (Nat × Rx.Spec) := [(31, i31S), (37, i37S), (38, i38S), (39, i39S), (40, i40S), (41, i41S), (42, i42S)]
theorem fG_ok : GammaOK P fG := .cons i31_ok (.cons i37_ok (.cons i38_ok (.cons i39_ok (.cons i40_ok (.cons i41_ok (.cons i42_ok (.nil P)))))))
theorem intE {a b : Int} {u : List (Option (Option Blk))} {n : List Blk} (h : a = b) : some (Res.nrm ⟨.int .i64 a, u, n⟩) = some (Res.nrm ⟨.int .i64 b, u, n⟩) := by rw [h]
theorem flags_ok : SpecOK P 24 flS := by
  refine specOK_fast fG_ok hm (Λ := loopsOf [(firstRegion (loopAt Try.f24 0), fUnroll P (specsOf fG) (loopsOf []) Try.f24 (loopAt Try.f24 0) 7)]) Try.func24 (by kernel_rfl) (LoopsOK.one (by kernel_rfl) (fUnroll_ok fG_ok hm (LoopsOK.nil (by kernel_rfl)) _ _)) ?_
  intro args bs r h
  unfold flS at h
  split at h
  · split at h
    · rename_i v s hm'
      rw [Sts.of_eq hm']
      rw [den_leaf] at h; subst h
      rw [show (fFn P (specsOf fG) (loopsOf [(firstRegion (loopAt Try.f24 0), fUnroll P (specsOf fG) (loopsOf []) Try.f24 (loopAt Try.f24 0) 7)]) Try.f24 [s.v] []).denN = Tree.denN (Tree.ite s.nt.2 (Tree.ite s.nt.3 (Tree.ite s.nt.4 (Tree.ite s.5 (Tree.ite s.6 (Tree.ite s.7 (Tree.leaf { v := V.int IntKind.i64 63, upd := [], new := [] }) (Tree.leaf { v := V.int IntKind.i64 31, upd := [], new := [] })) (Tree.ite s.7 (Tree.leaf { v := V.int IntKind.i64 47, upd := [], new := [] }) (Tree.leaf { v := V.int IntKind.i64 15, upd := [], new := [] }))) (Tree.ite s.6 (Tree.ite s.7 (Tree.leaf { v := V.int IntKind.i64 55, upd := [], new := [] }) (Tree.leaf { v := V.int IntKind.i64 23, upd := [], new := [] })) (Tree.ite s.7 (Tree.leaf { v := V.int IntKind.i64 39, upd := [], new := [] }) (Tree.leaf { v := V.int IntKind.i64 7, upd := [], new := [] })))) (Tree.ite s.5 (Tree.ite s.6 (Tree.ite s.7 (Tree.leaf { v := V.int IntKind.i64 59, upd := [], new := [] }) (Tree.leaf { v := V.int IntKind.i64 27, upd := [], new := [] })) (Tree.ite s.7 (Tree.leaf { v := V.int IntKind.i64 43, upd := [], new := [] }) (Tree.leaf { v := V.int IntKind.i64 11, upd := [], new := [] }))) (Tree.ite s.6 (Tree.ite s.7 (Tree.leaf { v := V.int IntKind.i64 51, upd := [], new := [] }) (Tree.leaf { v := V.int IntKind.i64 19, upd := [], new := [] })) (Tree.ite s.7 (Tree.leaf { v := V.int IntKind.i64 35, upd := [], new := [] }) (Tree.leaf { v := V.int IntKind.i64 3, upd := [], new := [] }))))) (Tree.ite s.nt.4 (Tree.ite s.5 (Tree.ite s.6 (Tree.ite s.7 (Tree.leaf { v := V.int IntKind.i64 61, upd := [], new := [] }) (Tree.leaf { v := V.int IntKind.i64 29, upd := [], new := [] })) (Tree.ite s.7 (Tree.leaf { v := V.int IntKind.i64 45, upd := [], new := [] }) (Tree.leaf { v := V.int IntKind.i64 13, upd := [], new := [] }))) (Tree.ite s.6 (Tree.ite s.7 (Tree.leaf { v := V.int IntKind.i64 53, upd := [], new := [] }) (Tree.leaf { v := V.int IntKind.i64 21, upd := [], new := [] })) (Tree.ite s.7 (Tree.leaf { v := V.int IntKind.i64 37, upd := [], new := [] }) (Tree.leaf { v := V.int IntKind.i64 5, upd := [], new := [] })))) (Tree.ite s.5 (Tree.ite s.6 (Tree.ite s.7 (Tree.leaf { v := V.int IntKind.i64 57, upd := [], new := [] }) (Tree.leaf { v := V.int IntKind.i64 25, upd := [], new := [] })) (Tree.ite s.7 (Tree.leaf { v := V.int IntKind.i64 41, upd := [], new := [] }) (Tree.leaf { v := V.int IntKind.i64 9, upd := [], new := [] }))) (Tree.ite s.6 (Tree.ite s.7 (Tree.leaf { v := V.int IntKind.i64 49, upd := [], new := [] }) (Tree.leaf { v := V.int IntKind.i64 17, upd := [], new := [] })) (Tree.ite s.7 (Tree.leaf { v := V.int IntKind.i64 33, upd := [], new := [] }) (Tree.leaf { v := V.int IntKind.i64 1, upd := [], new := [] })))))) (Tree.ite s.nt.3 (Tree.ite s.nt.4 (Tree.ite s.5 (Tree.ite s.6 (Tree.ite s.7 (Tree.leaf { v := V.int IntKind.i64 62, upd := [], new := [] }) (Tree.leaf { v := V.int IntKind.i64 30, upd := [], new := [] })) (Tree.ite s.7 (Tree.leaf { v := V.int IntKind.i64 46, upd := [], new := [] }) (Tree.leaf { v := V.int IntKind.i64 14, upd := [], new := [] }))) (Tree.ite s.6 (Tree.ite s.7 (Tree.leaf { v := V.int IntKind.i64 54, upd := [], new := [] }) (Tree.leaf { v := V.int IntKind.i64 22, upd := [], new := [] })) (Tree.ite s.7 (Tree.leaf { v := V.int IntKind.i64 38, upd := [], new := [] }) (Tree.leaf { v := V.int IntKind.i64 6, upd := [], new := [] })))) (Tree.ite s.5 (Tree.ite s.6 (Tree.ite s.7 (Tree.leaf { v := V.int IntKind.i64 58, upd := [], new := [] }) (Tree.leaf { v := V.int IntKind.i64 26, upd := [], new := [] })) (Tree.ite s.7 (Tree.leaf { v := V.int IntKind.i64 42, upd := [], new := [] }) (Tree.leaf { v := V.int IntKind.i64 10, upd := [], new := [] }))) (Tree.ite s.6 (Tree.ite s.7 (Tree.leaf { v := V.int IntKind.i64 50, upd := [], new := [] }) (Tree.leaf { v := V.int IntKind.i64 18, upd := [], new := [] })) (Tree.ite s.7 (Tree.leaf { v := V.int IntKind.i64 34, upd := [], new := [] }) (Tree.leaf { v := V.int IntKind.i64 2, upd := [], new := [] }))))) (Tree.ite s.nt.4 (Tree.ite s.5 (Tree.ite s.6 (Tree.ite s.7 (Tree.leaf { v := V.int IntKind.i64 60, upd := [], new := [] }) (Tree.leaf { v := V.int IntKind.i64 28, upd := [], new := [] })) (Tree.ite s.7 (Tree.leaf { v := V.int IntKind.i64 44, upd := [], new := [] }) (Tree.leaf { v := V.int IntKind.i64 12, upd := [], new := [] }))) (Tree.ite s.6 (Tree.ite s.7 (Tree.leaf { v := V.int IntKind.i64 52, upd := [], new := [] }) (Tree.leaf { v := V.int IntKind.i64 20, upd := [], new := [] })) (Tree.ite s.7 (Tree.leaf { v := V.int IntKind.i64 36, upd := [], new := [] }) (Tree.leaf { v := V.int IntKind.i64 4, upd := [], new := [] })))) (Tree.ite s.5 (Tree.ite s.6 (Tree.ite s.7 (Tree.leaf { v := V.int IntKind.i64 56, upd := [], new := [] }) (Tree.leaf { v := V.int IntKind.i64 24, upd := [], new := [] })) (Tree.ite s.7 (Tree.leaf { v := V.int IntKind.i64 40, upd := [], new := [] }) (Tree.leaf { v := V.int IntKind.i64 8, upd := [], new := [] }))) (Tree.ite s.6 (Tree.ite s.7 (Tree.leaf { v := V.int IntKind.i64 48, upd := [], new := [] }) (Tree.leaf { v := V.int IntKind.i64 16, upd := [], new := [] })) (Tree.ite s.7 (Tree.leaf { v := V.int IntKind.i64 32, upd := [], new := [] }) (Tree.leaf { v := V.int IntKind.i64 0, upd := [], new := [] }))))))) from by kernel_rfl]
      simp only [denN_ite, denN_leaf, denN_fail]
      unfold flagsZ
      cases s.nt.l61 <;> cases s.nt.l59 <;> cases s.nt.va <;> cases s.ptp <;> cases s.tra <;> cases s.fre <;> rfl
    · simp [den_fail] at h
  · simp [den_fail] at h
end Go.Proofs.Ytkclmkjekllkiaa
