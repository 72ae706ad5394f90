/- Layer 6: messages written, by the program and by the document; read by the program. The conditions stand in the specifications. -/
import Derived.Test.YthjldfmlclpdbaaFrB
import Derived.Laws.Strings
set_option linter.unusedSimpArgs false
set_option linter.unusedVariables false
set_option linter.unnecessarySimpa false
set_option linter.unusedSectionVars false
set_option maxRecDepth 100000
set_option linter.unusedSimpArgs false
set_option linter.unusedVariables false
namespace Go.Proofs.Ythjldfmlclpdbaa
open Go.Rx

def encMS : Rx.Spec := fun a b => match a, b with
  | [v], [] => match Msg.of v with
    | some m => .need (inI64 m.h.fl && msgZ m) (.ite (rightM m) (.leaf ⟨.tup [.sl 0 0 0 1 (msgBytes m).length none, .bool true], [], [.ints .u8 (msgBytes m)]⟩) (.leaf ⟨.tup [.sl 0 0 0 1 0 none, .bool false], [], [.ints .u8 []]⟩))
    | none => .fail
  | _, _ => .fail
noncomputable abbrev eG : List (Nat × Rx.Spec) := [(14, rightMS), (20, encS), (21, stmPutS), (22, putS)]
theorem eG_ok : GammaOK P eG := .cons rightM_ok (.cons encode_ok (.cons stmPut_ok (.cons put_ok (.nil P))))
theorem encM_ok : SpecOK P 10 encMS := by
  refine specOK_fast eG_ok hm (Λ := loopsOf []) Try.func10 (by kernel_rfl) (LoopsOK.nil (by kernel_rfl)) ?_
  intro args bs r h
  unfold encMS at h
  split at h
  · split at h
    · rename_i v m hm'
      rw [Msg.of_eq hm']
      rw [den_need] at h
      obtain ⟨hs, h⟩ := h
      rw [← denN_of h]
      rw [show (fFn P (specsOf eG) (loopsOf []) Try.f10 [m.v] []).denN = Tree.denN (Tree.ite (inI64 m.h.3) (Tree.ite (!rightM m) (Tree.leaf { v := V.tup [V.sl 0 0 0 1 0 none, V.fls], upd := [], new := [Body.ints IntKind.u8 []] }) (Tree.ite (inI64 m.h.3 && byteZ m.h.src.c.1 && byteZ m.h.src.c.2 && byteZ m.h.src.c.3 && byteZ m.h.src.c.4 && byteZ m.h.src.c.5 && byteZ m.h.src.c.6 && byteZ m.h.src.c.7 && byteZ m.h.src.c.8) (Tree.ite (rightB m.h.1 m.h.2 m.h.3 m.h.src.2 m.h.6 m.h.7) (Tree.ite (stmB m.t) (Tree.ite (m.h.1 == 9) (Tree.ite (decide (0 ≤ m.ask.2) && decide (m.ask.2 ≤ 65535)) (Tree.leaf { v := V.tup [V.sl 0 0 0 1 54 none, V.tru], upd := [], new := [Body.ints IntKind.u8 (List.take 44 (List.drop 0 (List.take 34 (List.drop 0 (headBytes m.h.1 m.h.2 m.h.3 m.h.4 m.h.src.c.1 m.h.src.c.2 m.h.src.c.3 m.h.src.c.4 m.h.src.c.5 m.h.src.c.6 m.h.src.c.7 m.h.src.c.8 m.h.src.2 m.h.6 m.h.7)) ++ [byteAt m.t.1 5, byteAt m.t.1 4, byteAt m.t.1 3, byteAt m.t.1 2, byteAt m.t.1 1, byteAt m.t.1 0, byteAt m.t.2 3, byteAt m.t.2 2, byteAt m.t.2 1, byteAt m.t.2 0])) ++ List.take 10 (List.drop 0 [m.ask.c.1, m.ask.c.2, m.ask.c.3, m.ask.c.4, m.ask.c.5, m.ask.c.6, m.ask.c.7, m.ask.c.8, m.ask.2 / 256, m.ask.2 % 256]))] }) Tree.fail) (Tree.ite (m.h.1 == 11) (Tree.leaf { v := V.tup [V.sl 0 0 0 1 64 none, V.tru], upd := [], new := [Body.ints IntKind.u8 (List.take 61 (List.drop 0 (List.take 53 (List.drop 0 (List.take 44 (List.drop 0 (List.take 34 (List.drop 0 (headBytes m.h.1 m.h.2 m.h.3 m.h.4 m.h.src.c.1 m.h.src.c.2 m.h.src.c.3 m.h.src.c.4 m.h.src.c.5 m.h.src.c.6 m.h.src.c.7 m.h.src.c.8 m.h.src.2 m.h.6 m.h.7)) ++ [byteAt m.t.1 5, byteAt m.t.1 4, byteAt m.t.1 3, byteAt m.t.1 2, byteAt m.t.1 1, byteAt m.t.1 0, byteAt m.t.2 3, byteAt m.t.2 2, byteAt m.t.2 1, byteAt m.t.2 0])) ++ List.take 9 (List.drop 0 [IntKind.u8.wrap (m.4.fdiv 256), IntKind.u8.wrap m.4, 0, IntKind.u8.wrap m.set.1, IntKind.u8.wrap m.set.q.1, IntKind.u8.wrap m.set.q.2, IntKind.u8.wrap (m.set.q.3.fdiv 256), IntKind.u8.wrap m.set.q.3, IntKind.u8.wrap m.set.2]))) ++ [m.set.g.1, m.set.g.2, m.set.g.3, m.set.g.4, m.set.g.5, m.set.g.6, m.set.g.7, m.set.g.8])) ++ List.take 3 (List.drop 0 [IntKind.u8.wrap (m.set.5.fdiv 256), IntKind.u8.wrap m.set.5, IntKind.u8.wrap m.6]))] }) (Tree.leaf { v := V.tup [V.sl 0 0 0 1 44 none, V.tru], upd := [], new := [Body.ints IntKind.u8 (List.take 34 (List.drop 0 (headBytes m.h.1 m.h.2 m.h.3 m.h.4 m.h.src.c.1 m.h.src.c.2 m.h.src.c.3 m.h.src.c.4 m.h.src.c.5 m.h.src.c.6 m.h.src.c.7 m.h.src.c.8 m.h.src.2 m.h.6 m.h.7)) ++ [byteAt m.t.1 5, byteAt m.t.1 4, byteAt m.t.1 3, byteAt m.t.1 2, byteAt m.t.1 1, byteAt m.t.1 0, byteAt m.t.2 3, byteAt m.t.2 2, byteAt m.t.2 1, byteAt m.t.2 0])] }))) Tree.fail) (Tree.ite (stmB m.t) (Tree.ite (m.h.1 == 9) (Tree.ite (decide (0 ≤ m.ask.2) && decide (m.ask.2 ≤ 65535)) (Tree.leaf { v := V.tup [V.sl 0 0 0 1 20 none, V.tru], upd := [], new := [Body.ints IntKind.u8 (List.take 10 (List.drop 0 (List.take 0 (List.drop 0 []) ++ [byteAt m.t.1 5, byteAt m.t.1 4, byteAt m.t.1 3, byteAt m.t.1 2, byteAt m.t.1 1, byteAt m.t.1 0, byteAt m.t.2 3, byteAt m.t.2 2, byteAt m.t.2 1, byteAt m.t.2 0])) ++ List.take 10 (List.drop 0 [m.ask.c.1, m.ask.c.2, m.ask.c.3, m.ask.c.4, m.ask.c.5, m.ask.c.6, m.ask.c.7, m.ask.c.8, m.ask.2 / 256, m.ask.2 % 256]))] }) Tree.fail) (Tree.ite (m.h.1 == 11) (Tree.leaf { v := V.tup [V.sl 0 0 0 1 30 none, V.tru], upd := [], new := [Body.ints IntKind.u8 (List.take 27 (List.drop 0 (List.take 19 (List.drop 0 (List.take 10 (List.drop 0 (List.take 0 (List.drop 0 []) ++ [byteAt m.t.1 5, byteAt m.t.1 4, byteAt m.t.1 3, byteAt m.t.1 2, byteAt m.t.1 1, byteAt m.t.1 0, byteAt m.t.2 3, byteAt m.t.2 2, byteAt m.t.2 1, byteAt m.t.2 0])) ++ List.take 9 (List.drop 0 [IntKind.u8.wrap (m.4.fdiv 256), IntKind.u8.wrap m.4, 0, IntKind.u8.wrap m.set.1, IntKind.u8.wrap m.set.q.1, IntKind.u8.wrap m.set.q.2, IntKind.u8.wrap (m.set.q.3.fdiv 256), IntKind.u8.wrap m.set.q.3, IntKind.u8.wrap m.set.2]))) ++ [m.set.g.1, m.set.g.2, m.set.g.3, m.set.g.4, m.set.g.5, m.set.g.6, m.set.g.7, m.set.g.8])) ++ List.take 3 (List.drop 0 [IntKind.u8.wrap (m.set.5.fdiv 256), IntKind.u8.wrap m.set.5, IntKind.u8.wrap m.6]))] }) (Tree.leaf { v := V.tup [V.sl 0 0 0 1 10 none, V.tru], upd := [], new := [Body.ints IntKind.u8 (List.take 0 (List.drop 0 []) ++ [byteAt m.t.1 5, byteAt m.t.1 4, byteAt m.t.1 3, byteAt m.t.1 2, byteAt m.t.1 1, byteAt m.t.1 0, byteAt m.t.2 3, byteAt m.t.2 2, byteAt m.t.2 1, byteAt m.t.2 0])] }))) Tree.fail)) Tree.fail)) Tree.fail) from by kernel_rfl]
      simp only [denN_ite, denN_leaf, denN_fail]
      simp only [Bool.and_eq_true] at hs
      obtain ⟨hfl, hz⟩ := hs
      cases hr : rightM m with
      | false => rw [if_pos hfl]; rfl
      | true =>
        have hr' := hr
        unfold rightM at hr'
        simp only [Bool.and_eq_true] at hr'
        obtain ⟨⟨hh, hst⟩, hb⟩ := hr'
        have hh' : rightB m.h.ty m.h.dom m.h.fl m.h.src.n m.h.se m.h.lo = true := hh
        have hz' := hz
        simp only [msgZ, ckZ, Bool.and_eq_true] at hz'
        obtain ⟨⟨⟨zc, z1⟩, z2⟩, z3⟩ := hz'
        have e1 (n : Int) : IntKind.u8.wrap (n.fdiv 256) = byteAt n 1 := u8_at n 1
        have e0 (n : Int) : IntKind.u8.wrap n = byteAt n 0 := by rw [IntKind.wrap_u8]; simp [byteAt]
        rw [if_pos hfl, if_neg (by simp), if_pos (by simp [hfl, z1]), if_pos hh', if_pos hst]
        by_cases h9 : m.h.ty = 9
        · rw [if_pos (by simpa using h9)]
          rw [if_pos h9] at hb
          simp only [inB, Bool.and_eq_true, decide_eq_true_eq] at hb
          rw [if_pos (by simp; omega)]
          have e : msgBytes m = hdBytes m.h ++ (stmBytes m.t ++ prtBytes m.ask) := by unfold msgBytes bodyBytes; rw [if_pos h9]
          rw [e]
          rfl
        · rw [if_neg (by simpa using h9)]
          by_cases h11 : m.h.ty = 11
          · rw [if_pos (by simpa using h11)]
            have e : msgBytes m = hdBytes m.h ++ (stmBytes m.t ++ annBytes m) := by unfold msgBytes bodyBytes; rw [if_neg h9, if_pos h11]
            rw [e]
            simp only [e1, e0]
            rfl
          · rw [if_neg (by simpa using h11)]
            have e : msgBytes m = hdBytes m.h ++ (stmBytes m.t ++ []) := by unfold msgBytes bodyBytes; rw [if_neg h9, if_neg h11]
            rw [e]
            rfl
    · simp [den_fail] at h
  · simp [den_fail] at h

noncomputable abbrev i26S : Rx.Spec := fFn P (specsOf []) (loopsOf []) Try.f26
theorem i26_ok : SpecOK P 26 i26S := inl_ok (GammaOK.nil P) hm Try.func26 (by kernel_rfl) (LoopsOK.nil (by kernel_rfl))
noncomputable abbrev i27S : Rx.Spec := fFn P (specsOf []) (loopsOf []) Try.f27
theorem i27_ok : SpecOK P 27 i27S := inl_ok (GammaOK.nil P) hm Try.func27 (by kernel_rfl) (LoopsOK.nil (by kernel_rfl))
noncomputable abbrev reG : List (Nat × Rx.Spec) := [(15, rightMS), (23, encS), (24, refPutStS), (25, putS), (26, i26S), (27, i27S)]
theorem reG_ok : GammaOK P reG := .cons refRightM_ok (.cons refEncode_ok (.cons refPutSt_ok (.cons refPut_ok (.cons i26_ok (.cons i27_ok (.nil P))))))
theorem u_at (n : Int) (k : Nat) : ((UInt8.ofNat (byteAt n k).toNat).toNat : Int) = byteAt n k := by
  have := byteAt_range n k
  rw [UInt8.toNat_ofNat_of_lt' (by show _ < 256; omega)]
  omega
theorem u_by {c : Int} (h : byteZ c = true) : ((UInt8.ofNat c.toNat).toNat : Int) = c := by
  rw [byteZ_iff] at h
  rw [UInt8.toNat_ofNat_of_lt' (by show _ < 256; omega)]
  omega
theorem two_hi {n : Int} (h0 : -32768 ≤ n) (h1 : n ≤ 65535) : IntKind.u8.wrap (IntKind.i64.wrap (((IntKind.i64.wrap (n + 65536)).tmod 65536).tdiv 256)) = byteAt n 1 := by
  rw [wrap64_id (n := n + 65536) (by omega) (by omega), Int.tmod_eq_emod_of_nonneg (by omega), Int.tdiv_eq_ediv_of_nonneg (by omega), wrap64_id (by omega) (by omega), IntKind.wrap_u8]
  simp only [byteAt, Nat.reduceMul, Int.reducePow]
  omega
theorem two_lo {n : Int} (h0 : -32768 ≤ n) (h1 : n ≤ 65535) : IntKind.u8.wrap (((IntKind.i64.wrap (n + 65536)).tmod 65536).tmod 256) = byteAt n 0 := by
  rw [wrap64_id (n := n + 65536) (by omega) (by omega), Int.tmod_eq_emod_of_nonneg (a := n + 65536) (by omega), Int.tmod_eq_emod_of_nonneg (by omega), IntKind.wrap_u8]
  simp only [byteAt, Nat.mul_zero, Int.pow_zero, Int.ediv_one]
  omega
theorem wrap_by {c : Int} (h : byteZ c = true) : IntKind.u8.wrap (IntKind.i64.wrap c) = c := by
  rw [byteZ_iff] at h
  rw [wrap64_id (by omega) (by omega), IntKind.wrap_u8]
  omega
theorem refEncM_ok : SpecOK P 12 encMS := by
  refine specOK_fast reG_ok hm (Λ := loopsOf [(firstRegion (loopAt Try.f12 0), fUnroll P (specsOf reG) (loopsOf []) Try.f12 (loopAt Try.f12 0) 9)]) Try.func12 (by kernel_rfl) (LoopsOK.one (by kernel_rfl) (fUnroll_ok reG_ok hm (LoopsOK.nil (by kernel_rfl)) _ _)) ?_
  intro args bs r h
  unfold encMS at h
  split at h
  · split at h
    · rename_i v m hm'
      rw [Msg.of_eq hm']
      rw [den_need] at h
      obtain ⟨hs, h⟩ := h
      rw [← denN_of h]
      rw [show (fFn P (specsOf reG) (loopsOf [(firstRegion (loopAt Try.f12 0), fUnroll P (specsOf reG) (loopsOf []) Try.f12 (loopAt Try.f12 0) 9)]) Try.f12 [m.v] []).denN = Tree.denN (Tree.ite (inI64 m.h.3) (Tree.ite (!rightM m) (Tree.leaf { v := V.tup [V.sl 0 0 0 1 0 none, V.fls], upd := [], new := [Body.ints IntKind.u8 []] }) (Tree.ite (inI64 m.h.3 && byteZ m.h.src.c.1 && byteZ m.h.src.c.2 && byteZ m.h.src.c.3 && byteZ m.h.src.c.4 && byteZ m.h.src.c.5 && byteZ m.h.src.c.6 && byteZ m.h.src.c.7 && byteZ m.h.src.c.8) (Tree.ite (rightB m.h.1 m.h.2 m.h.3 m.h.src.2 m.h.6 m.h.7) (Tree.ite (stmB m.t) (Tree.ite (m.h.1 == 9) (Tree.ite (decide (0 ≤ m.ask.2) && decide (m.ask.2 ≤ 65535)) (Tree.ite (m.h.1 == 11) (Tree.leaf { v := V.tup [V.sl 0 0 0 1 74 none, V.tru], upd := [], new := [Body.ints IntKind.u8 [(↑(UInt8.ofNat (byteAt m.h.1 0).toNat).toNat : Int), 2, (↑(UInt8.ofNat (byteAt (longZ m.h.1) 1).toNat).toNat : Int), (↑(UInt8.ofNat (byteAt (longZ m.h.1) 0).toNat).toNat : Int), (↑(UInt8.ofNat (byteAt m.h.2 0).toNat).toNat : Int), 0, (↑(UInt8.ofNat (byteAt m.h.3 1).toNat).toNat : Int), (↑(UInt8.ofNat (byteAt m.h.3 0).toNat).toNat : Int), (↑(UInt8.ofNat (byteAt m.h.4 7).toNat).toNat : Int), (↑(UInt8.ofNat (byteAt m.h.4 6).toNat).toNat : Int), (↑(UInt8.ofNat (byteAt m.h.4 5).toNat).toNat : Int), (↑(UInt8.ofNat (byteAt m.h.4 4).toNat).toNat : Int), (↑(UInt8.ofNat (byteAt m.h.4 3).toNat).toNat : Int), (↑(UInt8.ofNat (byteAt m.h.4 2).toNat).toNat : Int), (↑(UInt8.ofNat (byteAt m.h.4 1).toNat).toNat : Int), (↑(UInt8.ofNat (byteAt m.h.4 0).toNat).toNat : Int), 0, 0, 0, 0, (↑(UInt8.ofNat m.h.src.c.1.toNat).toNat : Int), (↑(UInt8.ofNat m.h.src.c.2.toNat).toNat : Int), (↑(UInt8.ofNat m.h.src.c.3.toNat).toNat : Int), (↑(UInt8.ofNat m.h.src.c.4.toNat).toNat : Int), (↑(UInt8.ofNat m.h.src.c.5.toNat).toNat : Int), (↑(UInt8.ofNat m.h.src.c.6.toNat).toNat : Int), (↑(UInt8.ofNat m.h.src.c.7.toNat).toNat : Int), (↑(UInt8.ofNat m.h.src.c.8.toNat).toNat : Int), (↑(UInt8.ofNat (m.h.src.2 / 256).toNat).toNat : Int), (↑(UInt8.ofNat (m.h.src.2 % 256).toNat).toNat : Int), (↑(UInt8.ofNat (byteAt m.h.6 1).toNat).toNat : Int), (↑(UInt8.ofNat (byteAt m.h.6 0).toNat).toNat : Int), 0, (↑(UInt8.ofNat (byteAt m.h.7 0).toNat).toNat : Int), (↑(UInt8.ofNat (byteAt m.t.1 5).toNat).toNat : Int), (↑(UInt8.ofNat (byteAt m.t.1 4).toNat).toNat : Int), (↑(UInt8.ofNat (byteAt m.t.1 3).toNat).toNat : Int), (↑(UInt8.ofNat (byteAt m.t.1 2).toNat).toNat : Int), (↑(UInt8.ofNat (byteAt m.t.1 1).toNat).toNat : Int), (↑(UInt8.ofNat (byteAt m.t.1 0).toNat).toNat : Int), (↑(UInt8.ofNat (byteAt m.t.2 3).toNat).toNat : Int), (↑(UInt8.ofNat (byteAt m.t.2 2).toNat).toNat : Int), (↑(UInt8.ofNat (byteAt m.t.2 1).toNat).toNat : Int), (↑(UInt8.ofNat (byteAt m.t.2 0).toNat).toNat : Int), (↑(UInt8.ofNat m.ask.c.1.toNat).toNat : Int), (↑(UInt8.ofNat m.ask.c.2.toNat).toNat : Int), (↑(UInt8.ofNat m.ask.c.3.toNat).toNat : Int), (↑(UInt8.ofNat m.ask.c.4.toNat).toNat : Int), (↑(UInt8.ofNat m.ask.c.5.toNat).toNat : Int), (↑(UInt8.ofNat m.ask.c.6.toNat).toNat : Int), (↑(UInt8.ofNat m.ask.c.7.toNat).toNat : Int), (↑(UInt8.ofNat m.ask.c.8.toNat).toNat : Int), (↑(UInt8.ofNat (m.ask.2 / 256).toNat).toNat : Int), (↑(UInt8.ofNat (m.ask.2 % 256).toNat).toNat : Int), (↑(UInt8.ofNat (IntKind.u8.wrap (IntKind.i64.wrap (((IntKind.i64.wrap (m.4 + 65536)).tmod 65536).tdiv 256))).toNat).toNat : Int), (↑(UInt8.ofNat (IntKind.u8.wrap (((IntKind.i64.wrap (m.4 + 65536)).tmod 65536).tmod 256)).toNat).toNat : Int), 0, (↑(UInt8.ofNat (IntKind.u8.wrap m.set.1).toNat).toNat : Int), (↑(UInt8.ofNat (IntKind.u8.wrap m.set.q.1).toNat).toNat : Int), (↑(UInt8.ofNat (IntKind.u8.wrap m.set.q.2).toNat).toNat : Int), (↑(UInt8.ofNat (IntKind.u8.wrap (IntKind.i64.wrap (((IntKind.i64.wrap (m.set.q.3 + 65536)).tmod 65536).tdiv 256))).toNat).toNat : Int), (↑(UInt8.ofNat (IntKind.u8.wrap (((IntKind.i64.wrap (m.set.q.3 + 65536)).tmod 65536).tmod 256)).toNat).toNat : Int), (↑(UInt8.ofNat (IntKind.u8.wrap m.set.2).toNat).toNat : Int), (↑(UInt8.ofNat (IntKind.u8.wrap (IntKind.i64.wrap m.set.g.1)).toNat).toNat : Int), (↑(UInt8.ofNat (IntKind.u8.wrap (IntKind.i64.wrap m.set.g.2)).toNat).toNat : Int), (↑(UInt8.ofNat (IntKind.u8.wrap (IntKind.i64.wrap m.set.g.3)).toNat).toNat : Int), (↑(UInt8.ofNat (IntKind.u8.wrap (IntKind.i64.wrap m.set.g.4)).toNat).toNat : Int), (↑(UInt8.ofNat (IntKind.u8.wrap (IntKind.i64.wrap m.set.g.5)).toNat).toNat : Int), (↑(UInt8.ofNat (IntKind.u8.wrap (IntKind.i64.wrap m.set.g.6)).toNat).toNat : Int), (↑(UInt8.ofNat (IntKind.u8.wrap (IntKind.i64.wrap m.set.g.7)).toNat).toNat : Int), (↑(UInt8.ofNat (IntKind.u8.wrap (IntKind.i64.wrap m.set.g.8)).toNat).toNat : Int), (↑(UInt8.ofNat (IntKind.u8.wrap (IntKind.i64.wrap (((IntKind.i64.wrap (m.set.5 + 65536)).tmod 65536).tdiv 256))).toNat).toNat : Int), (↑(UInt8.ofNat (IntKind.u8.wrap (((IntKind.i64.wrap (m.set.5 + 65536)).tmod 65536).tmod 256)).toNat).toNat : Int), (↑(UInt8.ofNat (IntKind.u8.wrap m.6).toNat).toNat : Int)]] }) (Tree.leaf { v := V.tup [V.sl 0 0 0 1 54 none, V.tru], upd := [], new := [Body.ints IntKind.u8 [(↑(UInt8.ofNat (byteAt m.h.1 0).toNat).toNat : Int), 2, (↑(UInt8.ofNat (byteAt (longZ m.h.1) 1).toNat).toNat : Int), (↑(UInt8.ofNat (byteAt (longZ m.h.1) 0).toNat).toNat : Int), (↑(UInt8.ofNat (byteAt m.h.2 0).toNat).toNat : Int), 0, (↑(UInt8.ofNat (byteAt m.h.3 1).toNat).toNat : Int), (↑(UInt8.ofNat (byteAt m.h.3 0).toNat).toNat : Int), (↑(UInt8.ofNat (byteAt m.h.4 7).toNat).toNat : Int), (↑(UInt8.ofNat (byteAt m.h.4 6).toNat).toNat : Int), (↑(UInt8.ofNat (byteAt m.h.4 5).toNat).toNat : Int), (↑(UInt8.ofNat (byteAt m.h.4 4).toNat).toNat : Int), (↑(UInt8.ofNat (byteAt m.h.4 3).toNat).toNat : Int), (↑(UInt8.ofNat (byteAt m.h.4 2).toNat).toNat : Int), (↑(UInt8.ofNat (byteAt m.h.4 1).toNat).toNat : Int), (↑(UInt8.ofNat (byteAt m.h.4 0).toNat).toNat : Int), 0, 0, 0, 0, (↑(UInt8.ofNat m.h.src.c.1.toNat).toNat : Int), (↑(UInt8.ofNat m.h.src.c.2.toNat).toNat : Int), (↑(UInt8.ofNat m.h.src.c.3.toNat).toNat : Int), (↑(UInt8.ofNat m.h.src.c.4.toNat).toNat : Int), (↑(UInt8.ofNat m.h.src.c.5.toNat).toNat : Int), (↑(UInt8.ofNat m.h.src.c.6.toNat).toNat : Int), (↑(UInt8.ofNat m.h.src.c.7.toNat).toNat : Int), (↑(UInt8.ofNat m.h.src.c.8.toNat).toNat : Int), (↑(UInt8.ofNat (m.h.src.2 / 256).toNat).toNat : Int), (↑(UInt8.ofNat (m.h.src.2 % 256).toNat).toNat : Int), (↑(UInt8.ofNat (byteAt m.h.6 1).toNat).toNat : Int), (↑(UInt8.ofNat (byteAt m.h.6 0).toNat).toNat : Int), 0, (↑(UInt8.ofNat (byteAt m.h.7 0).toNat).toNat : Int), (↑(UInt8.ofNat (byteAt m.t.1 5).toNat).toNat : Int), (↑(UInt8.ofNat (byteAt m.t.1 4).toNat).toNat : Int), (↑(UInt8.ofNat (byteAt m.t.1 3).toNat).toNat : Int), (↑(UInt8.ofNat (byteAt m.t.1 2).toNat).toNat : Int), (↑(UInt8.ofNat (byteAt m.t.1 1).toNat).toNat : Int), (↑(UInt8.ofNat (byteAt m.t.1 0).toNat).toNat : Int), (↑(UInt8.ofNat (byteAt m.t.2 3).toNat).toNat : Int), (↑(UInt8.ofNat (byteAt m.t.2 2).toNat).toNat : Int), (↑(UInt8.ofNat (byteAt m.t.2 1).toNat).toNat : Int), (↑(UInt8.ofNat (byteAt m.t.2 0).toNat).toNat : Int), (↑(UInt8.ofNat m.ask.c.1.toNat).toNat : Int), (↑(UInt8.ofNat m.ask.c.2.toNat).toNat : Int), (↑(UInt8.ofNat m.ask.c.3.toNat).toNat : Int), (↑(UInt8.ofNat m.ask.c.4.toNat).toNat : Int), (↑(UInt8.ofNat m.ask.c.5.toNat).toNat : Int), (↑(UInt8.ofNat m.ask.c.6.toNat).toNat : Int), (↑(UInt8.ofNat m.ask.c.7.toNat).toNat : Int), (↑(UInt8.ofNat m.ask.c.8.toNat).toNat : Int), (↑(UInt8.ofNat (m.ask.2 / 256).toNat).toNat : Int), (↑(UInt8.ofNat (m.ask.2 % 256).toNat).toNat : Int)]] })) Tree.fail) (Tree.ite (m.h.1 == 11) (Tree.leaf { v := V.tup [V.sl 0 0 0 1 64 none, V.tru], upd := [], new := [Body.ints IntKind.u8 [(↑(UInt8.ofNat (byteAt m.h.1 0).toNat).toNat : Int), 2, (↑(UInt8.ofNat (byteAt (longZ m.h.1) 1).toNat).toNat : Int), (↑(UInt8.ofNat (byteAt (longZ m.h.1) 0).toNat).toNat : Int), (↑(UInt8.ofNat (byteAt m.h.2 0).toNat).toNat : Int), 0, (↑(UInt8.ofNat (byteAt m.h.3 1).toNat).toNat : Int), (↑(UInt8.ofNat (byteAt m.h.3 0).toNat).toNat : Int), (↑(UInt8.ofNat (byteAt m.h.4 7).toNat).toNat : Int), (↑(UInt8.ofNat (byteAt m.h.4 6).toNat).toNat : Int), (↑(UInt8.ofNat (byteAt m.h.4 5).toNat).toNat : Int), (↑(UInt8.ofNat (byteAt m.h.4 4).toNat).toNat : Int), (↑(UInt8.ofNat (byteAt m.h.4 3).toNat).toNat : Int), (↑(UInt8.ofNat (byteAt m.h.4 2).toNat).toNat : Int), (↑(UInt8.ofNat (byteAt m.h.4 1).toNat).toNat : Int), (↑(UInt8.ofNat (byteAt m.h.4 0).toNat).toNat : Int), 0, 0, 0, 0, (↑(UInt8.ofNat m.h.src.c.1.toNat).toNat : Int), (↑(UInt8.ofNat m.h.src.c.2.toNat).toNat : Int), (↑(UInt8.ofNat m.h.src.c.3.toNat).toNat : Int), (↑(UInt8.ofNat m.h.src.c.4.toNat).toNat : Int), (↑(UInt8.ofNat m.h.src.c.5.toNat).toNat : Int), (↑(UInt8.ofNat m.h.src.c.6.toNat).toNat : Int), (↑(UInt8.ofNat m.h.src.c.7.toNat).toNat : Int), (↑(UInt8.ofNat m.h.src.c.8.toNat).toNat : Int), (↑(UInt8.ofNat (m.h.src.2 / 256).toNat).toNat : Int), (↑(UInt8.ofNat (m.h.src.2 % 256).toNat).toNat : Int), (↑(UInt8.ofNat (byteAt m.h.6 1).toNat).toNat : Int), (↑(UInt8.ofNat (byteAt m.h.6 0).toNat).toNat : Int), 0, (↑(UInt8.ofNat (byteAt m.h.7 0).toNat).toNat : Int), (↑(UInt8.ofNat (byteAt m.t.1 5).toNat).toNat : Int), (↑(UInt8.ofNat (byteAt m.t.1 4).toNat).toNat : Int), (↑(UInt8.ofNat (byteAt m.t.1 3).toNat).toNat : Int), (↑(UInt8.ofNat (byteAt m.t.1 2).toNat).toNat : Int), (↑(UInt8.ofNat (byteAt m.t.1 1).toNat).toNat : Int), (↑(UInt8.ofNat (byteAt m.t.1 0).toNat).toNat : Int), (↑(UInt8.ofNat (byteAt m.t.2 3).toNat).toNat : Int), (↑(UInt8.ofNat (byteAt m.t.2 2).toNat).toNat : Int), (↑(UInt8.ofNat (byteAt m.t.2 1).toNat).toNat : Int), (↑(UInt8.ofNat (byteAt m.t.2 0).toNat).toNat : Int), (↑(UInt8.ofNat (IntKind.u8.wrap (IntKind.i64.wrap (((IntKind.i64.wrap (m.4 + 65536)).tmod 65536).tdiv 256))).toNat).toNat : Int), (↑(UInt8.ofNat (IntKind.u8.wrap (((IntKind.i64.wrap (m.4 + 65536)).tmod 65536).tmod 256)).toNat).toNat : Int), 0, (↑(UInt8.ofNat (IntKind.u8.wrap m.set.1).toNat).toNat : Int), (↑(UInt8.ofNat (IntKind.u8.wrap m.set.q.1).toNat).toNat : Int), (↑(UInt8.ofNat (IntKind.u8.wrap m.set.q.2).toNat).toNat : Int), (↑(UInt8.ofNat (IntKind.u8.wrap (IntKind.i64.wrap (((IntKind.i64.wrap (m.set.q.3 + 65536)).tmod 65536).tdiv 256))).toNat).toNat : Int), (↑(UInt8.ofNat (IntKind.u8.wrap (((IntKind.i64.wrap (m.set.q.3 + 65536)).tmod 65536).tmod 256)).toNat).toNat : Int), (↑(UInt8.ofNat (IntKind.u8.wrap m.set.2).toNat).toNat : Int), (↑(UInt8.ofNat (IntKind.u8.wrap (IntKind.i64.wrap m.set.g.1)).toNat).toNat : Int), (↑(UInt8.ofNat (IntKind.u8.wrap (IntKind.i64.wrap m.set.g.2)).toNat).toNat : Int), (↑(UInt8.ofNat (IntKind.u8.wrap (IntKind.i64.wrap m.set.g.3)).toNat).toNat : Int), (↑(UInt8.ofNat (IntKind.u8.wrap (IntKind.i64.wrap m.set.g.4)).toNat).toNat : Int), (↑(UInt8.ofNat (IntKind.u8.wrap (IntKind.i64.wrap m.set.g.5)).toNat).toNat : Int), (↑(UInt8.ofNat (IntKind.u8.wrap (IntKind.i64.wrap m.set.g.6)).toNat).toNat : Int), (↑(UInt8.ofNat (IntKind.u8.wrap (IntKind.i64.wrap m.set.g.7)).toNat).toNat : Int), (↑(UInt8.ofNat (IntKind.u8.wrap (IntKind.i64.wrap m.set.g.8)).toNat).toNat : Int), (↑(UInt8.ofNat (IntKind.u8.wrap (IntKind.i64.wrap (((IntKind.i64.wrap (m.set.5 + 65536)).tmod 65536).tdiv 256))).toNat).toNat : Int), (↑(UInt8.ofNat (IntKind.u8.wrap (((IntKind.i64.wrap (m.set.5 + 65536)).tmod 65536).tmod 256)).toNat).toNat : Int), (↑(UInt8.ofNat (IntKind.u8.wrap m.6).toNat).toNat : Int)]] }) (Tree.leaf { v := V.tup [V.sl 0 0 0 1 44 none, V.tru], upd := [], new := [Body.ints IntKind.u8 [(↑(UInt8.ofNat (byteAt m.h.1 0).toNat).toNat : Int), 2, (↑(UInt8.ofNat (byteAt (longZ m.h.1) 1).toNat).toNat : Int), (↑(UInt8.ofNat (byteAt (longZ m.h.1) 0).toNat).toNat : Int), (↑(UInt8.ofNat (byteAt m.h.2 0).toNat).toNat : Int), 0, (↑(UInt8.ofNat (byteAt m.h.3 1).toNat).toNat : Int), (↑(UInt8.ofNat (byteAt m.h.3 0).toNat).toNat : Int), (↑(UInt8.ofNat (byteAt m.h.4 7).toNat).toNat : Int), (↑(UInt8.ofNat (byteAt m.h.4 6).toNat).toNat : Int), (↑(UInt8.ofNat (byteAt m.h.4 5).toNat).toNat : Int), (↑(UInt8.ofNat (byteAt m.h.4 4).toNat).toNat : Int), (↑(UInt8.ofNat (byteAt m.h.4 3).toNat).toNat : Int), (↑(UInt8.ofNat (byteAt m.h.4 2).toNat).toNat : Int), (↑(UInt8.ofNat (byteAt m.h.4 1).toNat).toNat : Int), (↑(UInt8.ofNat (byteAt m.h.4 0).toNat).toNat : Int), 0, 0, 0, 0, (↑(UInt8.ofNat m.h.src.c.1.toNat).toNat : Int), (↑(UInt8.ofNat m.h.src.c.2.toNat).toNat : Int), (↑(UInt8.ofNat m.h.src.c.3.toNat).toNat : Int), (↑(UInt8.ofNat m.h.src.c.4.toNat).toNat : Int), (↑(UInt8.ofNat m.h.src.c.5.toNat).toNat : Int), (↑(UInt8.ofNat m.h.src.c.6.toNat).toNat : Int), (↑(UInt8.ofNat m.h.src.c.7.toNat).toNat : Int), (↑(UInt8.ofNat m.h.src.c.8.toNat).toNat : Int), (↑(UInt8.ofNat (m.h.src.2 / 256).toNat).toNat : Int), (↑(UInt8.ofNat (m.h.src.2 % 256).toNat).toNat : Int), (↑(UInt8.ofNat (byteAt m.h.6 1).toNat).toNat : Int), (↑(UInt8.ofNat (byteAt m.h.6 0).toNat).toNat : Int), 0, (↑(UInt8.ofNat (byteAt m.h.7 0).toNat).toNat : Int), (↑(UInt8.ofNat (byteAt m.t.1 5).toNat).toNat : Int), (↑(UInt8.ofNat (byteAt m.t.1 4).toNat).toNat : Int), (↑(UInt8.ofNat (byteAt m.t.1 3).toNat).toNat : Int), (↑(UInt8.ofNat (byteAt m.t.1 2).toNat).toNat : Int), (↑(UInt8.ofNat (byteAt m.t.1 1).toNat).toNat : Int), (↑(UInt8.ofNat (byteAt m.t.1 0).toNat).toNat : Int), (↑(UInt8.ofNat (byteAt m.t.2 3).toNat).toNat : Int), (↑(UInt8.ofNat (byteAt m.t.2 2).toNat).toNat : Int), (↑(UInt8.ofNat (byteAt m.t.2 1).toNat).toNat : Int), (↑(UInt8.ofNat (byteAt m.t.2 0).toNat).toNat : Int)]] }))) Tree.fail) (Tree.ite (stmB m.t) (Tree.ite (m.h.1 == 9) (Tree.ite (decide (0 ≤ m.ask.2) && decide (m.ask.2 ≤ 65535)) (Tree.ite (m.h.1 == 11) (Tree.leaf { v := V.tup [V.sl 0 0 0 1 40 none, V.tru], upd := [], new := [Body.ints IntKind.u8 [(↑(UInt8.ofNat (byteAt m.t.1 5).toNat).toNat : Int), (↑(UInt8.ofNat (byteAt m.t.1 4).toNat).toNat : Int), (↑(UInt8.ofNat (byteAt m.t.1 3).toNat).toNat : Int), (↑(UInt8.ofNat (byteAt m.t.1 2).toNat).toNat : Int), (↑(UInt8.ofNat (byteAt m.t.1 1).toNat).toNat : Int), (↑(UInt8.ofNat (byteAt m.t.1 0).toNat).toNat : Int), (↑(UInt8.ofNat (byteAt m.t.2 3).toNat).toNat : Int), (↑(UInt8.ofNat (byteAt m.t.2 2).toNat).toNat : Int), (↑(UInt8.ofNat (byteAt m.t.2 1).toNat).toNat : Int), (↑(UInt8.ofNat (byteAt m.t.2 0).toNat).toNat : Int), (↑(UInt8.ofNat m.ask.c.1.toNat).toNat : Int), (↑(UInt8.ofNat m.ask.c.2.toNat).toNat : Int), (↑(UInt8.ofNat m.ask.c.3.toNat).toNat : Int), (↑(UInt8.ofNat m.ask.c.4.toNat).toNat : Int), (↑(UInt8.ofNat m.ask.c.5.toNat).toNat : Int), (↑(UInt8.ofNat m.ask.c.6.toNat).toNat : Int), (↑(UInt8.ofNat m.ask.c.7.toNat).toNat : Int), (↑(UInt8.ofNat m.ask.c.8.toNat).toNat : Int), (↑(UInt8.ofNat (m.ask.2 / 256).toNat).toNat : Int), (↑(UInt8.ofNat (m.ask.2 % 256).toNat).toNat : Int), (↑(UInt8.ofNat (IntKind.u8.wrap (IntKind.i64.wrap (((IntKind.i64.wrap (m.4 + 65536)).tmod 65536).tdiv 256))).toNat).toNat : Int), (↑(UInt8.ofNat (IntKind.u8.wrap (((IntKind.i64.wrap (m.4 + 65536)).tmod 65536).tmod 256)).toNat).toNat : Int), 0, (↑(UInt8.ofNat (IntKind.u8.wrap m.set.1).toNat).toNat : Int), (↑(UInt8.ofNat (IntKind.u8.wrap m.set.q.1).toNat).toNat : Int), (↑(UInt8.ofNat (IntKind.u8.wrap m.set.q.2).toNat).toNat : Int), (↑(UInt8.ofNat (IntKind.u8.wrap (IntKind.i64.wrap (((IntKind.i64.wrap (m.set.q.3 + 65536)).tmod 65536).tdiv 256))).toNat).toNat : Int), (↑(UInt8.ofNat (IntKind.u8.wrap (((IntKind.i64.wrap (m.set.q.3 + 65536)).tmod 65536).tmod 256)).toNat).toNat : Int), (↑(UInt8.ofNat (IntKind.u8.wrap m.set.2).toNat).toNat : Int), (↑(UInt8.ofNat (IntKind.u8.wrap (IntKind.i64.wrap m.set.g.1)).toNat).toNat : Int), (↑(UInt8.ofNat (IntKind.u8.wrap (IntKind.i64.wrap m.set.g.2)).toNat).toNat : Int), (↑(UInt8.ofNat (IntKind.u8.wrap (IntKind.i64.wrap m.set.g.3)).toNat).toNat : Int), (↑(UInt8.ofNat (IntKind.u8.wrap (IntKind.i64.wrap m.set.g.4)).toNat).toNat : Int), (↑(UInt8.ofNat (IntKind.u8.wrap (IntKind.i64.wrap m.set.g.5)).toNat).toNat : Int), (↑(UInt8.ofNat (IntKind.u8.wrap (IntKind.i64.wrap m.set.g.6)).toNat).toNat : Int), (↑(UInt8.ofNat (IntKind.u8.wrap (IntKind.i64.wrap m.set.g.7)).toNat).toNat : Int), (↑(UInt8.ofNat (IntKind.u8.wrap (IntKind.i64.wrap m.set.g.8)).toNat).toNat : Int), (↑(UInt8.ofNat (IntKind.u8.wrap (IntKind.i64.wrap (((IntKind.i64.wrap (m.set.5 + 65536)).tmod 65536).tdiv 256))).toNat).toNat : Int), (↑(UInt8.ofNat (IntKind.u8.wrap (((IntKind.i64.wrap (m.set.5 + 65536)).tmod 65536).tmod 256)).toNat).toNat : Int), (↑(UInt8.ofNat (IntKind.u8.wrap m.6).toNat).toNat : Int)]] }) (Tree.leaf { v := V.tup [V.sl 0 0 0 1 20 none, V.tru], upd := [], new := [Body.ints IntKind.u8 [(↑(UInt8.ofNat (byteAt m.t.1 5).toNat).toNat : Int), (↑(UInt8.ofNat (byteAt m.t.1 4).toNat).toNat : Int), (↑(UInt8.ofNat (byteAt m.t.1 3).toNat).toNat : Int), (↑(UInt8.ofNat (byteAt m.t.1 2).toNat).toNat : Int), (↑(UInt8.ofNat (byteAt m.t.1 1).toNat).toNat : Int), (↑(UInt8.ofNat (byteAt m.t.1 0).toNat).toNat : Int), (↑(UInt8.ofNat (byteAt m.t.2 3).toNat).toNat : Int), (↑(UInt8.ofNat (byteAt m.t.2 2).toNat).toNat : Int), (↑(UInt8.ofNat (byteAt m.t.2 1).toNat).toNat : Int), (↑(UInt8.ofNat (byteAt m.t.2 0).toNat).toNat : Int), (↑(UInt8.ofNat m.ask.c.1.toNat).toNat : Int), (↑(UInt8.ofNat m.ask.c.2.toNat).toNat : Int), (↑(UInt8.ofNat m.ask.c.3.toNat).toNat : Int), (↑(UInt8.ofNat m.ask.c.4.toNat).toNat : Int), (↑(UInt8.ofNat m.ask.c.5.toNat).toNat : Int), (↑(UInt8.ofNat m.ask.c.6.toNat).toNat : Int), (↑(UInt8.ofNat m.ask.c.7.toNat).toNat : Int), (↑(UInt8.ofNat m.ask.c.8.toNat).toNat : Int), (↑(UInt8.ofNat (m.ask.2 / 256).toNat).toNat : Int), (↑(UInt8.ofNat (m.ask.2 % 256).toNat).toNat : Int)]] })) Tree.fail) (Tree.ite (m.h.1 == 11) (Tree.leaf { v := V.tup [V.sl 0 0 0 1 30 none, V.tru], upd := [], new := [Body.ints IntKind.u8 [(↑(UInt8.ofNat (byteAt m.t.1 5).toNat).toNat : Int), (↑(UInt8.ofNat (byteAt m.t.1 4).toNat).toNat : Int), (↑(UInt8.ofNat (byteAt m.t.1 3).toNat).toNat : Int), (↑(UInt8.ofNat (byteAt m.t.1 2).toNat).toNat : Int), (↑(UInt8.ofNat (byteAt m.t.1 1).toNat).toNat : Int), (↑(UInt8.ofNat (byteAt m.t.1 0).toNat).toNat : Int), (↑(UInt8.ofNat (byteAt m.t.2 3).toNat).toNat : Int), (↑(UInt8.ofNat (byteAt m.t.2 2).toNat).toNat : Int), (↑(UInt8.ofNat (byteAt m.t.2 1).toNat).toNat : Int), (↑(UInt8.ofNat (byteAt m.t.2 0).toNat).toNat : Int), (↑(UInt8.ofNat (IntKind.u8.wrap (IntKind.i64.wrap (((IntKind.i64.wrap (m.4 + 65536)).tmod 65536).tdiv 256))).toNat).toNat : Int), (↑(UInt8.ofNat (IntKind.u8.wrap (((IntKind.i64.wrap (m.4 + 65536)).tmod 65536).tmod 256)).toNat).toNat : Int), 0, (↑(UInt8.ofNat (IntKind.u8.wrap m.set.1).toNat).toNat : Int), (↑(UInt8.ofNat (IntKind.u8.wrap m.set.q.1).toNat).toNat : Int), (↑(UInt8.ofNat (IntKind.u8.wrap m.set.q.2).toNat).toNat : Int), (↑(UInt8.ofNat (IntKind.u8.wrap (IntKind.i64.wrap (((IntKind.i64.wrap (m.set.q.3 + 65536)).tmod 65536).tdiv 256))).toNat).toNat : Int), (↑(UInt8.ofNat (IntKind.u8.wrap (((IntKind.i64.wrap (m.set.q.3 + 65536)).tmod 65536).tmod 256)).toNat).toNat : Int), (↑(UInt8.ofNat (IntKind.u8.wrap m.set.2).toNat).toNat : Int), (↑(UInt8.ofNat (IntKind.u8.wrap (IntKind.i64.wrap m.set.g.1)).toNat).toNat : Int), (↑(UInt8.ofNat (IntKind.u8.wrap (IntKind.i64.wrap m.set.g.2)).toNat).toNat : Int), (↑(UInt8.ofNat (IntKind.u8.wrap (IntKind.i64.wrap m.set.g.3)).toNat).toNat : Int), (↑(UInt8.ofNat (IntKind.u8.wrap (IntKind.i64.wrap m.set.g.4)).toNat).toNat : Int), (↑(UInt8.ofNat (IntKind.u8.wrap (IntKind.i64.wrap m.set.g.5)).toNat).toNat : Int), (↑(UInt8.ofNat (IntKind.u8.wrap (IntKind.i64.wrap m.set.g.6)).toNat).toNat : Int), (↑(UInt8.ofNat (IntKind.u8.wrap (IntKind.i64.wrap m.set.g.7)).toNat).toNat : Int), (↑(UInt8.ofNat (IntKind.u8.wrap (IntKind.i64.wrap m.set.g.8)).toNat).toNat : Int), (↑(UInt8.ofNat (IntKind.u8.wrap (IntKind.i64.wrap (((IntKind.i64.wrap (m.set.5 + 65536)).tmod 65536).tdiv 256))).toNat).toNat : Int), (↑(UInt8.ofNat (IntKind.u8.wrap (((IntKind.i64.wrap (m.set.5 + 65536)).tmod 65536).tmod 256)).toNat).toNat : Int), (↑(UInt8.ofNat (IntKind.u8.wrap m.6).toNat).toNat : Int)]] }) (Tree.leaf { v := V.tup [V.sl 0 0 0 1 10 none, V.tru], upd := [], new := [Body.ints IntKind.u8 [(↑(UInt8.ofNat (byteAt m.t.1 5).toNat).toNat : Int), (↑(UInt8.ofNat (byteAt m.t.1 4).toNat).toNat : Int), (↑(UInt8.ofNat (byteAt m.t.1 3).toNat).toNat : Int), (↑(UInt8.ofNat (byteAt m.t.1 2).toNat).toNat : Int), (↑(UInt8.ofNat (byteAt m.t.1 1).toNat).toNat : Int), (↑(UInt8.ofNat (byteAt m.t.1 0).toNat).toNat : Int), (↑(UInt8.ofNat (byteAt m.t.2 3).toNat).toNat : Int), (↑(UInt8.ofNat (byteAt m.t.2 2).toNat).toNat : Int), (↑(UInt8.ofNat (byteAt m.t.2 1).toNat).toNat : Int), (↑(UInt8.ofNat (byteAt m.t.2 0).toNat).toNat : Int)]] }))) Tree.fail)) Tree.fail)) Tree.fail) from by kernel_rfl]
      simp only [denN_ite, denN_leaf, denN_fail]
      simp only [Bool.and_eq_true] at hs
      obtain ⟨hfl, hz⟩ := hs
      cases hr : rightM m with
      | false => rw [if_pos hfl]; rfl
      | true =>
        have hr' := hr
        unfold rightM at hr'
        simp only [Bool.and_eq_true] at hr'
        obtain ⟨⟨hh, hst⟩, hb⟩ := hr'
        have hh' : rightB m.h.ty m.h.dom m.h.fl m.h.src.n m.h.se m.h.lo = true := hh
        have hz' := hz
        simp only [msgZ, ckZ, Bool.and_eq_true] at hz'
        obtain ⟨⟨⟨zc, z1⟩, z2⟩, z3⟩ := hz'
        have e0 (n : Int) : IntKind.u8.wrap n = byteAt n 0 := by rw [IntKind.wrap_u8]; simp [byteAt]
        have hrf := right_facts hh'
        have n1 : byteZ (m.h.src.n / 256) = true := by rw [byteZ_iff]; omega
        have n2 : byteZ (m.h.src.n % 256) = true := by rw [byteZ_iff]; omega
        rw [if_pos hfl, if_neg (by simp), if_pos (by simp [hfl, z1]), if_pos hh', if_pos hst]
        by_cases h9 : m.h.ty = 9
        · rw [if_pos (by simpa using h9)]
          rw [if_pos h9] at hb
          simp only [inB, Bool.and_eq_true, decide_eq_true_eq] at hb
          rw [if_pos (by simp; omega), if_neg (by simp; omega)]
          have e : msgBytes m = hdBytes m.h ++ (stmBytes m.t ++ prtBytes m.ask) := by unfold msgBytes bodyBytes; rw [if_pos h9]
          have n3 : byteZ (m.ask.n / 256) = true := by rw [byteZ_iff]; omega
          have n4 : byteZ (m.ask.n % 256) = true := by rw [byteZ_iff]; omega
          rw [e]
          simp only [u_at, u_by z1.1.1.1.1.1.1.1, u_by z1.1.1.1.1.1.1.2, u_by z1.1.1.1.1.1.2, u_by z1.1.1.1.1.2, u_by z1.1.1.1.2, u_by z1.1.1.2, u_by z1.1.2, u_by z1.2, u_by z2.1.1.1.1.1.1.1, u_by z2.1.1.1.1.1.1.2, u_by z2.1.1.1.1.1.2, u_by z2.1.1.1.1.2, u_by z2.1.1.1.2, u_by z2.1.1.2, u_by z2.1.2, u_by z2.2, u_by n1, u_by n2, u_by n3, u_by n4]
          rfl
        · rw [if_neg (by simpa using h9)]
          by_cases h11 : m.h.ty = 11
          · rw [if_pos (by simpa using h11)]
            rw [if_neg h9, if_pos h11] at hb
            simp only [annB, inB, Bool.and_eq_true, decide_eq_true_eq] at hb
            obtain ⟨hask, ⟨⟨⟨⟨⟨o0, o1⟩, ⟨⟨⟨p1, p2⟩, p3⟩, p4⟩, p5⟩, p6, p7⟩, p8⟩, p9⟩, p10⟩ := hb
            have e : msgBytes m = hdBytes m.h ++ (stmBytes m.t ++ annBytes m) := by unfold msgBytes bodyBytes; rw [if_neg h9, if_pos h11]
            rw [e]
            simp only [two_hi o0 (Int.le_trans o1 (by omega)), two_lo o0 (Int.le_trans o1 (by omega)), two_hi (Int.le_trans (by omega) p6.1) p6.2, two_lo (Int.le_trans (by omega) p6.1) p6.2, two_hi (Int.le_trans (by omega) p7.1) p7.2, two_lo (Int.le_trans (by omega) p7.1) p7.2,
              wrap_by z3.1.1.1.1.1.1.1, wrap_by z3.1.1.1.1.1.1.2, wrap_by z3.1.1.1.1.1.2, wrap_by z3.1.1.1.1.2, wrap_by z3.1.1.1.2, wrap_by z3.1.1.2, wrap_by z3.1.2, wrap_by z3.2, e0]
            simp only [u_at, u_by z1.1.1.1.1.1.1.1, u_by z1.1.1.1.1.1.1.2, u_by z1.1.1.1.1.1.2, u_by z1.1.1.1.1.2, u_by z1.1.1.1.2, u_by z1.1.1.2, u_by z1.1.2, u_by z1.2, u_by z3.1.1.1.1.1.1.1, u_by z3.1.1.1.1.1.1.2, u_by z3.1.1.1.1.1.2, u_by z3.1.1.1.1.2, u_by z3.1.1.1.2, u_by z3.1.1.2, u_by z3.1.2, u_by z3.2, u_by n1, u_by n2]
            rfl
          · rw [if_neg (by simpa using h11)]
            have e : msgBytes m = hdBytes m.h ++ (stmBytes m.t ++ []) := by unfold msgBytes bodyBytes; rw [if_neg h9, if_neg h11]
            rw [e]
            simp only [u_at, u_by z1.1.1.1.1.1.1.1, u_by z1.1.1.1.1.1.1.2, u_by z1.1.1.1.1.1.2, u_by z1.1.1.1.1.2, u_by z1.1.1.1.2, u_by z1.1.1.2, u_by z1.1.2, u_by z1.2, u_by n1, u_by n2]
            rfl
    · simp [den_fail] at h
  · simp [den_fail] at h
end Go.Proofs.Ythjldfmlclpdbaa

set_option maxRecDepth 100000
set_option linter.unusedSimpArgs false
set_option linter.unusedVariables false
namespace Go.Proofs.Ythjldfmlclpdbaa
open Go.Rx

def decMS : Rx.Spec := fun a b => match a, b with
  | [.sl 0 0 0 1 l cap], [.ints .u8 xs] => .need (allByte xs && decide (l = xs.length) && decide (xs.length ≤ 9223372036854775806)) (.ite (mErr xs == 0) (.leaf ⟨.tup [(dMsg xs).v, .int .i64 0], [none], []⟩) (.leaf ⟨.tup [Msg.zero.v, .int .i64 (mErr xs)], [none], []⟩))
  | _, _ => .fail
noncomputable abbrev i36S : Rx.Spec := fFn P (specsOf []) (loopsOf []) Try.f36
theorem i36_ok : SpecOK P 36 i36S := inl_ok (GammaOK.nil P) hm Try.func36 (by kernel_rfl) (LoopsOK.nil (by kernel_rfl))
theorem g36_G : GammaOK P [(36, i36S)] := .cons i36_ok (.nil P)
noncomputable abbrev i37S : Rx.Spec := fFn P (specsOf [(36, i36S)]) (loopsOf []) Try.f37
theorem i37_ok : SpecOK P 37 i37S := inl_ok g36_G hm Try.func37 (by kernel_rfl) (LoopsOK.nil (by kernel_rfl))
noncomputable abbrev i38S : Rx.Spec := fFn P (specsOf [(36, i36S)]) (loopsOf []) Try.f38
theorem i38_ok : SpecOK P 38 i38S := inl_ok g36_G hm Try.func38 (by kernel_rfl) (LoopsOK.nil (by kernel_rfl))
noncomputable abbrev dG : List (Nat × Rx.Spec) := [(14, rightMS), (35, decS), (39, getStS), (40, getS), (36, i36S), (37, i37S), (38, i38S)]
theorem dG_ok : GammaOK P dG := .cons rightM_ok (.cons decode_ok (.cons getSt_ok (.cons get_ok (.cons i36_ok (.cons i37_ok (.cons i38_ok (.nil P)))))))
theorem wrap16s (x : Int) : IntKind.i16.wrap x = if x % 65536 ≥ 32768 then x % 65536 - 65536 else x % 65536 := by
  show (if (true && decide (x % 65536 ≥ 32768)) = true then x % 65536 - 65536 else x % 65536) = _
  simp only [Bool.true_and, decide_eq_true_eq]
theorem dMsg9 {xs : List Int} (h : dTy xs = 9) (hn : dNs xs ≤ 999999999) : dMsg xs = ⟨dHd xs, ⟨dSec xs, dNs xs⟩, dAsk xs, 0, Ste.zero, 0⟩ := by
  unfold dMsg dTime; rw [if_pos hn, if_pos h, if_neg (by omega), if_neg (by omega), if_neg (by omega)]
theorem dMsg11 {xs : List Int} (h : dTy xs = 11) (hn : dNs xs ≤ 999999999) : dMsg xs = ⟨dHd xs, ⟨dSec xs, dNs xs⟩, Prt.zero, dOff xs, dSet xs, xs.getD 63 0⟩ := by
  unfold dMsg dTime; rw [if_pos hn, if_neg (by omega), if_pos h, if_pos h, if_pos h]
theorem dMsg0 {xs : List Int} (h9 : ¬ dTy xs = 9) (h11 : ¬ dTy xs = 11) (hn : dNs xs ≤ 999999999) : dMsg xs = ⟨dHd xs, ⟨dSec xs, dNs xs⟩, Prt.zero, 0, Ste.zero, 0⟩ := by
  unfold dMsg dTime; rw [if_pos hn, if_neg h9, if_neg h11, if_neg h11, if_neg h11]
def resD (m : Msg) (e : Int) : Option Res := some (Res.nrm ⟨.tup [m.v, .int .i64 e], [none], []⟩)
theorem decM_ok : SpecOK P 16 decMS := by
  refine specOK_fast dG_ok hm (Λ := loopsOf []) Try.func16 (by kernel_rfl) (LoopsOK.nil (by kernel_rfl)) ?_
  intro args bs r h
  unfold decMS at h
  split at h
  · rename_i l cap xs
    rw [den_need] at h
    obtain ⟨hs, h⟩ := h
    have hl : l = xs.length := by simp only [Bool.and_eq_true, decide_eq_true_eq] at hs; exact hs.1.2
    subst hl
    rw [← denN_of h]
    rw [show (fFn P (specsOf dG) (loopsOf []) Try.f16 [.sl 0 0 0 1 xs.length cap] [.ints .u8 xs]).denN = Tree.denN (Tree.ite (allByte xs && decide (xs.length = xs.length) && decide (xs.length ≤ 9223372036854775806)) (Tree.ite (decErr xs == 0) (Tree.ite (true && decide (34 ≤ (↑xs.length : Int)) && decide ((↑xs.length : Int) ≤ (↑xs.length : Int))) (Tree.ite (true && decide (10 ≤ (↑(xs.length - 34) : Int))) (Tree.ite (true && decide (10 ≤ (↑(xs.length - 34) : Int)) && decide ((↑(xs.length - 34) : Int) ≤ (↑(xs.length - 34) : Int))) (Tree.ite (allByte xs && decide (44 ≤ xs.length)) (Tree.ite (decide (sumF 0 (bytesAt xs 40 4) ≤ 999999999)) (Tree.ite (dTy xs == 9) (Tree.ite (true && decide (10 ≤ (↑(xs.length - 34 - 10) : Int))) (Tree.ite (true && decide (10 ≤ (↑(xs.length - 34 - 10) : Int)) && decide ((↑(xs.length - 34 - 10) : Int) ≤ (↑(xs.length - 34 - 10) : Int))) (Tree.ite (allByte xs && true && decide (54 ≤ xs.length)) (Tree.ite (inI64 (dFl xs)) (Tree.ite (!rightM { h := { ty := dTy xs, dom := xs.getD 4 0, fl := dFl xs, co := dCo xs, src := { c := { b0 := xs.getD 20 0, b1 := xs.getD 21 0, b2 := xs.getD 22 0, b3 := xs.getD 23 0, b4 := xs.getD 24 0, b5 := xs.getD 25 0, b6 := xs.getD 26 0, b7 := xs.getD 27 0 }, n := dNum xs }, se := dSe xs, lo := dLo xs }, t := { sec := sumF 0 (bytesAt xs 34 6), ns := sumF 0 (bytesAt xs 40 4) }, ask := { c := { b0 := xs.getD 44 0, b1 := xs.getD 45 0, b2 := xs.getD 46 0, b3 := xs.getD 47 0, b4 := xs.getD 48 0, b5 := xs.getD 49 0, b6 := xs.getD 50 0, b7 := xs.getD 51 0 }, n := xs.getD 52 0 * 256 + xs.getD 53 0 }, off := 0, set := { p1 := 0, p2 := 0, q := { cl := 0, ac := 0, va := 0 }, g := { b0 := 0, b1 := 0, b2 := 0, b3 := 0, b4 := 0, b5 := 0, b6 := 0, b7 := 0 }, st := 0, snd := { c := { b0 := 0, b1 := 0, b2 := 0, b3 := 0, b4 := 0, b5 := 0, b6 := 0, b7 := 0 }, n := 0 }, rcv := { c := { b0 := 0, b1 := 0, b2 := 0, b3 := 0, b4 := 0, b5 := 0, b6 := 0, b7 := 0 }, n := 0 } }, src := 0 }) (Tree.leaf { v := V.tup [V.agg [V.int IntKind.i64 0, V.int IntKind.i64 0, V.int IntKind.i64 0, V.int IntKind.i64 0, V.int IntKind.u8 0, V.int IntKind.u8 0, V.int IntKind.u8 0, V.int IntKind.u8 0, V.int IntKind.u8 0, V.int IntKind.u8 0, V.int IntKind.u8 0, V.int IntKind.u8 0, V.int IntKind.i64 0, V.int IntKind.i64 0, V.int IntKind.i64 0, V.int IntKind.i64 0, V.int IntKind.i64 0, V.int IntKind.u8 0, V.int IntKind.u8 0, V.int IntKind.u8 0, V.int IntKind.u8 0, V.int IntKind.u8 0, V.int IntKind.u8 0, V.int IntKind.u8 0, V.int IntKind.u8 0, V.int IntKind.i64 0, V.int IntKind.i64 0, V.int IntKind.i64 0, V.int IntKind.i64 0, V.int IntKind.i64 0, V.int IntKind.i64 0, V.int IntKind.i64 0, V.int IntKind.u8 0, V.int IntKind.u8 0, V.int IntKind.u8 0, V.int IntKind.u8 0, V.int IntKind.u8 0, V.int IntKind.u8 0, V.int IntKind.u8 0, V.int IntKind.u8 0, V.int IntKind.i64 0, V.int IntKind.u8 0, V.int IntKind.u8 0, V.int IntKind.u8 0, V.int IntKind.u8 0, V.int IntKind.u8 0, V.int IntKind.u8 0, V.int IntKind.u8 0, V.int IntKind.u8 0, V.int IntKind.i64 0, V.int IntKind.u8 0, V.int IntKind.u8 0, V.int IntKind.u8 0, V.int IntKind.u8 0, V.int IntKind.u8 0, V.int IntKind.u8 0, V.int IntKind.u8 0, V.int IntKind.u8 0, V.int IntKind.i64 0, V.int IntKind.i64 0], V.int IntKind.i64 60], upd := [none], new := [] }) (Tree.leaf { v := V.tup [V.agg [V.int IntKind.i64 (dTy xs), V.int IntKind.i64 (xs.getD 4 0), V.int IntKind.i64 (dFl xs), V.int IntKind.i64 (dCo xs), V.int IntKind.u8 (xs.getD 20 0), V.int IntKind.u8 (xs.getD 21 0), V.int IntKind.u8 (xs.getD 22 0), V.int IntKind.u8 (xs.getD 23 0), V.int IntKind.u8 (xs.getD 24 0), V.int IntKind.u8 (xs.getD 25 0), V.int IntKind.u8 (xs.getD 26 0), V.int IntKind.u8 (xs.getD 27 0), V.int IntKind.i64 (dNum xs), V.int IntKind.i64 (dSe xs), V.int IntKind.i64 (dLo xs), V.int IntKind.i64 (sumF 0 (bytesAt xs 34 6)), V.int IntKind.i64 (sumF 0 (bytesAt xs 40 4)), V.int IntKind.u8 (xs.getD 44 0), V.int IntKind.u8 (xs.getD 45 0), V.int IntKind.u8 (xs.getD 46 0), V.int IntKind.u8 (xs.getD 47 0), V.int IntKind.u8 (xs.getD 48 0), V.int IntKind.u8 (xs.getD 49 0), V.int IntKind.u8 (xs.getD 50 0), V.int IntKind.u8 (xs.getD 51 0), V.int IntKind.i64 (xs.getD 52 0 * 256 + xs.getD 53 0), V.int IntKind.i64 0, V.int IntKind.i64 0, V.int IntKind.i64 0, V.int IntKind.i64 0, V.int IntKind.i64 0, V.int IntKind.i64 0, V.int IntKind.u8 0, V.int IntKind.u8 0, V.int IntKind.u8 0, V.int IntKind.u8 0, V.int IntKind.u8 0, V.int IntKind.u8 0, V.int IntKind.u8 0, V.int IntKind.u8 0, V.int IntKind.i64 0, V.int IntKind.u8 0, V.int IntKind.u8 0, V.int IntKind.u8 0, V.int IntKind.u8 0, V.int IntKind.u8 0, V.int IntKind.u8 0, V.int IntKind.u8 0, V.int IntKind.u8 0, V.int IntKind.i64 0, V.int IntKind.u8 0, V.int IntKind.u8 0, V.int IntKind.u8 0, V.int IntKind.u8 0, V.int IntKind.u8 0, V.int IntKind.u8 0, V.int IntKind.u8 0, V.int IntKind.u8 0, V.int IntKind.i64 0, V.int IntKind.i64 0], V.int IntKind.i64 0], upd := [none], new := [] })) Tree.fail) Tree.fail) Tree.fail) Tree.fail) (Tree.ite (dTy xs == 11) (Tree.ite (true && decide (2 ≤ (↑(xs.length - 34 - 10) : Int))) (Tree.ite (true && decide (2 ≤ (↑(xs.length - 34 - 10) : Int)) && decide ((↑(xs.length - 34 - 10) : Int) ≤ (↑(xs.length - 34 - 10) : Int))) (Tree.ite (decide (45 ≤ xs.length)) (Tree.ite (decide (46 ≤ xs.length)) (Tree.ite (true && decide (1 ≤ (↑(xs.length - 34 - 10 - 2) : Int))) (Tree.ite (true && decide (1 ≤ (↑(xs.length - 34 - 10 - 2) : Int)) && decide ((↑(xs.length - 34 - 10 - 2) : Int) ≤ (↑(xs.length - 34 - 10 - 2) : Int))) (Tree.ite (decide (47 ≤ xs.length)) (Tree.ite (IntKind.i64.wrap (xs.getD 46 0) != 0) (Tree.ite (true && decide (1 ≤ (↑(xs.length - 34 - 10 - 2 - 1) : Int))) (Tree.ite (true && decide (1 ≤ (↑(xs.length - 34 - 10 - 2 - 1) : Int)) && decide ((↑(xs.length - 34 - 10 - 2 - 1) : Int) ≤ (↑(xs.length - 34 - 10 - 2 - 1) : Int))) (Tree.ite (decide (48 ≤ xs.length)) (Tree.ite (true && decide (1 ≤ (↑(xs.length - 34 - 10 - 2 - 1 - 1) : Int))) (Tree.ite (true && decide (1 ≤ (↑(xs.length - 34 - 10 - 2 - 1 - 1) : Int)) && decide ((↑(xs.length - 34 - 10 - 2 - 1 - 1) : Int) ≤ (↑(xs.length - 34 - 10 - 2 - 1 - 1) : Int))) (Tree.ite (decide (49 ≤ xs.length)) (Tree.ite (true && decide (1 ≤ (↑(xs.length - 34 - 10 - 2 - 1 - 1 - 1) : Int))) (Tree.ite (true && decide (1 ≤ (↑(xs.length - 34 - 10 - 2 - 1 - 1 - 1) : Int)) && decide ((↑(xs.length - 34 - 10 - 2 - 1 - 1 - 1) : Int) ≤ (↑(xs.length - 34 - 10 - 2 - 1 - 1 - 1) : Int))) (Tree.ite (decide (50 ≤ xs.length)) (Tree.ite (true && decide (2 ≤ (↑(xs.length - 34 - 10 - 2 - 1 - 1 - 1 - 1) : Int))) (Tree.ite (true && decide (2 ≤ (↑(xs.length - 34 - 10 - 2 - 1 - 1 - 1 - 1) : Int)) && decide ((↑(xs.length - 34 - 10 - 2 - 1 - 1 - 1 - 1) : Int) ≤ (↑(xs.length - 34 - 10 - 2 - 1 - 1 - 1 - 1) : Int))) (Tree.ite (decide (51 ≤ xs.length)) (Tree.ite (decide (52 ≤ xs.length)) (Tree.ite (true && decide (1 ≤ (↑(xs.length - 34 - 10 - 2 - 1 - 1 - 1 - 1 - 2) : Int))) (Tree.ite (true && decide (1 ≤ (↑(xs.length - 34 - 10 - 2 - 1 - 1 - 1 - 1 - 2) : Int)) && decide ((↑(xs.length - 34 - 10 - 2 - 1 - 1 - 1 - 1 - 2) : Int) ≤ (↑(xs.length - 34 - 10 - 2 - 1 - 1 - 1 - 1 - 2) : Int))) (Tree.ite (decide (53 ≤ xs.length)) (Tree.ite (true && decide (8 ≤ (↑(xs.length - 34 - 10 - 2 - 1 - 1 - 1 - 1 - 2 - 1) : Int))) (Tree.ite (true && decide (8 ≤ (↑(xs.length - 34 - 10 - 2 - 1 - 1 - 1 - 1 - 2 - 1) : Int)) && decide ((↑(xs.length - 34 - 10 - 2 - 1 - 1 - 1 - 1 - 2 - 1) : Int) ≤ (↑(xs.length - 34 - 10 - 2 - 1 - 1 - 1 - 1 - 2 - 1) : Int))) (Tree.ite (decide (61 ≤ xs.length)) (Tree.ite (true && decide (2 ≤ (↑(xs.length - 34 - 10 - 2 - 1 - 1 - 1 - 1 - 2 - 1 - 8) : Int))) (Tree.ite (true && decide (2 ≤ (↑(xs.length - 34 - 10 - 2 - 1 - 1 - 1 - 1 - 2 - 1 - 8) : Int)) && decide ((↑(xs.length - 34 - 10 - 2 - 1 - 1 - 1 - 1 - 2 - 1 - 8) : Int) ≤ (↑(xs.length - 34 - 10 - 2 - 1 - 1 - 1 - 1 - 2 - 1 - 8) : Int))) (Tree.ite (decide (62 ≤ xs.length)) (Tree.ite (decide (63 ≤ xs.length)) (Tree.ite (true && decide (1 ≤ (↑(xs.length - 34 - 10 - 2 - 1 - 1 - 1 - 1 - 2 - 1 - 8 - 2) : Int))) (Tree.ite (true && decide (1 ≤ (↑(xs.length - 34 - 10 - 2 - 1 - 1 - 1 - 1 - 2 - 1 - 8 - 2) : Int)) && decide ((↑(xs.length - 34 - 10 - 2 - 1 - 1 - 1 - 1 - 2 - 1 - 8 - 2) : Int) ≤ (↑(xs.length - 34 - 10 - 2 - 1 - 1 - 1 - 1 - 2 - 1 - 8 - 2) : Int))) (Tree.ite (decide (64 ≤ xs.length)) (Tree.leaf { v := V.tup [V.agg [V.int IntKind.i64 0, V.int IntKind.i64 0, V.int IntKind.i64 0, V.int IntKind.i64 0, V.int IntKind.u8 0, V.int IntKind.u8 0, V.int IntKind.u8 0, V.int IntKind.u8 0, V.int IntKind.u8 0, V.int IntKind.u8 0, V.int IntKind.u8 0, V.int IntKind.u8 0, V.int IntKind.i64 0, V.int IntKind.i64 0, V.int IntKind.i64 0, V.int IntKind.i64 0, V.int IntKind.i64 0, V.int IntKind.u8 0, V.int IntKind.u8 0, V.int IntKind.u8 0, V.int IntKind.u8 0, V.int IntKind.u8 0, V.int IntKind.u8 0, V.int IntKind.u8 0, V.int IntKind.u8 0, V.int IntKind.i64 0, V.int IntKind.i64 0, V.int IntKind.i64 0, V.int IntKind.i64 0, V.int IntKind.i64 0, V.int IntKind.i64 0, V.int IntKind.i64 0, V.int IntKind.u8 0, V.int IntKind.u8 0, V.int IntKind.u8 0, V.int IntKind.u8 0, V.int IntKind.u8 0, V.int IntKind.u8 0, V.int IntKind.u8 0, V.int IntKind.u8 0, V.int IntKind.i64 0, V.int IntKind.u8 0, V.int IntKind.u8 0, V.int IntKind.u8 0, V.int IntKind.u8 0, V.int IntKind.u8 0, V.int IntKind.u8 0, V.int IntKind.u8 0, V.int IntKind.u8 0, V.int IntKind.i64 0, V.int IntKind.u8 0, V.int IntKind.u8 0, V.int IntKind.u8 0, V.int IntKind.u8 0, V.int IntKind.u8 0, V.int IntKind.u8 0, V.int IntKind.u8 0, V.int IntKind.u8 0, V.int IntKind.i64 0, V.int IntKind.i64 0], V.int IntKind.i64 60], upd := [none], new := [] }) Tree.fail) Tree.fail) Tree.fail) Tree.fail) Tree.fail) Tree.fail) Tree.fail) Tree.fail) Tree.fail) Tree.fail) Tree.fail) Tree.fail) Tree.fail) Tree.fail) Tree.fail) Tree.fail) Tree.fail) Tree.fail) Tree.fail) Tree.fail) Tree.fail) Tree.fail) Tree.fail) Tree.fail) Tree.fail) Tree.fail) (Tree.ite (true && decide (1 ≤ (↑(xs.length - 34 - 10 - 2 - 1) : Int))) (Tree.ite (true && decide (1 ≤ (↑(xs.length - 34 - 10 - 2 - 1) : Int)) && decide ((↑(xs.length - 34 - 10 - 2 - 1) : Int) ≤ (↑(xs.length - 34 - 10 - 2 - 1) : Int))) (Tree.ite (decide (48 ≤ xs.length)) (Tree.ite (true && decide (1 ≤ (↑(xs.length - 34 - 10 - 2 - 1 - 1) : Int))) (Tree.ite (true && decide (1 ≤ (↑(xs.length - 34 - 10 - 2 - 1 - 1) : Int)) && decide ((↑(xs.length - 34 - 10 - 2 - 1 - 1) : Int) ≤ (↑(xs.length - 34 - 10 - 2 - 1 - 1) : Int))) (Tree.ite (decide (49 ≤ xs.length)) (Tree.ite (true && decide (1 ≤ (↑(xs.length - 34 - 10 - 2 - 1 - 1 - 1) : Int))) (Tree.ite (true && decide (1 ≤ (↑(xs.length - 34 - 10 - 2 - 1 - 1 - 1) : Int)) && decide ((↑(xs.length - 34 - 10 - 2 - 1 - 1 - 1) : Int) ≤ (↑(xs.length - 34 - 10 - 2 - 1 - 1 - 1) : Int))) (Tree.ite (decide (50 ≤ xs.length)) (Tree.ite (true && decide (2 ≤ (↑(xs.length - 34 - 10 - 2 - 1 - 1 - 1 - 1) : Int))) (Tree.ite (true && decide (2 ≤ (↑(xs.length - 34 - 10 - 2 - 1 - 1 - 1 - 1) : Int)) && decide ((↑(xs.length - 34 - 10 - 2 - 1 - 1 - 1 - 1) : Int) ≤ (↑(xs.length - 34 - 10 - 2 - 1 - 1 - 1 - 1) : Int))) (Tree.ite (decide (51 ≤ xs.length)) (Tree.ite (decide (52 ≤ xs.length)) (Tree.ite (true && decide (1 ≤ (↑(xs.length - 34 - 10 - 2 - 1 - 1 - 1 - 1 - 2) : Int))) (Tree.ite (true && decide (1 ≤ (↑(xs.length - 34 - 10 - 2 - 1 - 1 - 1 - 1 - 2) : Int)) && decide ((↑(xs.length - 34 - 10 - 2 - 1 - 1 - 1 - 1 - 2) : Int) ≤ (↑(xs.length - 34 - 10 - 2 - 1 - 1 - 1 - 1 - 2) : Int))) (Tree.ite (decide (53 ≤ xs.length)) (Tree.ite (true && decide (8 ≤ (↑(xs.length - 34 - 10 - 2 - 1 - 1 - 1 - 1 - 2 - 1) : Int))) (Tree.ite (true && decide (8 ≤ (↑(xs.length - 34 - 10 - 2 - 1 - 1 - 1 - 1 - 2 - 1) : Int)) && decide ((↑(xs.length - 34 - 10 - 2 - 1 - 1 - 1 - 1 - 2 - 1) : Int) ≤ (↑(xs.length - 34 - 10 - 2 - 1 - 1 - 1 - 1 - 2 - 1) : Int))) (Tree.ite (decide (61 ≤ xs.length)) (Tree.ite (true && decide (2 ≤ (↑(xs.length - 34 - 10 - 2 - 1 - 1 - 1 - 1 - 2 - 1 - 8) : Int))) (Tree.ite (true && decide (2 ≤ (↑(xs.length - 34 - 10 - 2 - 1 - 1 - 1 - 1 - 2 - 1 - 8) : Int)) && decide ((↑(xs.length - 34 - 10 - 2 - 1 - 1 - 1 - 1 - 2 - 1 - 8) : Int) ≤ (↑(xs.length - 34 - 10 - 2 - 1 - 1 - 1 - 1 - 2 - 1 - 8) : Int))) (Tree.ite (decide (62 ≤ xs.length)) (Tree.ite (decide (63 ≤ xs.length)) (Tree.ite (true && decide (1 ≤ (↑(xs.length - 34 - 10 - 2 - 1 - 1 - 1 - 1 - 2 - 1 - 8 - 2) : Int))) (Tree.ite (true && decide (1 ≤ (↑(xs.length - 34 - 10 - 2 - 1 - 1 - 1 - 1 - 2 - 1 - 8 - 2) : Int)) && decide ((↑(xs.length - 34 - 10 - 2 - 1 - 1 - 1 - 1 - 2 - 1 - 8 - 2) : Int) ≤ (↑(xs.length - 34 - 10 - 2 - 1 - 1 - 1 - 1 - 2 - 1 - 8 - 2) : Int))) (Tree.ite (decide (64 ≤ xs.length)) (Tree.ite (inI64 (dFl xs)) (Tree.ite (!rightM { h := { ty := dTy xs, dom := xs.getD 4 0, fl := dFl xs, co := dCo xs, src := { c := { b0 := xs.getD 20 0, b1 := xs.getD 21 0, b2 := xs.getD 22 0, b3 := xs.getD 23 0, b4 := xs.getD 24 0, b5 := xs.getD 25 0, b6 := xs.getD 26 0, b7 := xs.getD 27 0 }, n := dNum xs }, se := dSe xs, lo := dLo xs }, t := { sec := sumF 0 (bytesAt xs 34 6), ns := sumF 0 (bytesAt xs 40 4) }, ask := { c := { b0 := 0, b1 := 0, b2 := 0, b3 := 0, b4 := 0, b5 := 0, b6 := 0, b7 := 0 }, n := 0 }, off := IntKind.i64.wrap (IntKind.i16.wrap (bOr IntKind.i64 (IntKind.i64.wrap (IntKind.i64.wrap (xs.getD 44 0) * 256)) (IntKind.i64.wrap (xs.getD 45 0)))), set := { p1 := IntKind.i64.wrap (xs.getD 47 0), p2 := IntKind.i64.wrap (xs.getD 52 0), q := { cl := IntKind.i64.wrap (xs.getD 48 0), ac := IntKind.i64.wrap (xs.getD 49 0), va := bOr IntKind.i64 (IntKind.i64.wrap (IntKind.i64.wrap (xs.getD 50 0) * 256)) (IntKind.i64.wrap (xs.getD 51 0)) }, g := { b0 := xs.getD 53 0, b1 := xs.getD 54 0, b2 := xs.getD 55 0, b3 := xs.getD 56 0, b4 := xs.getD 57 0, b5 := xs.getD 58 0, b6 := xs.getD 59 0, b7 := xs.getD 60 0 }, st := bOr IntKind.i64 (IntKind.i64.wrap (IntKind.i64.wrap (xs.getD 61 0) * 256)) (IntKind.i64.wrap (xs.getD 62 0)), snd := { c := { b0 := xs.getD 20 0, b1 := xs.getD 21 0, b2 := xs.getD 22 0, b3 := xs.getD 23 0, b4 := xs.getD 24 0, b5 := xs.getD 25 0, b6 := xs.getD 26 0, b7 := xs.getD 27 0 }, n := dNum xs }, rcv := { c := { b0 := 0, b1 := 0, b2 := 0, b3 := 0, b4 := 0, b5 := 0, b6 := 0, b7 := 0 }, n := 0 } }, src := IntKind.i64.wrap (xs.getD 63 0) }) (Tree.leaf { v := V.tup [V.agg [V.int IntKind.i64 0, V.int IntKind.i64 0, V.int IntKind.i64 0, V.int IntKind.i64 0, V.int IntKind.u8 0, V.int IntKind.u8 0, V.int IntKind.u8 0, V.int IntKind.u8 0, V.int IntKind.u8 0, V.int IntKind.u8 0, V.int IntKind.u8 0, V.int IntKind.u8 0, V.int IntKind.i64 0, V.int IntKind.i64 0, V.int IntKind.i64 0, V.int IntKind.i64 0, V.int IntKind.i64 0, V.int IntKind.u8 0, V.int IntKind.u8 0, V.int IntKind.u8 0, V.int IntKind.u8 0, V.int IntKind.u8 0, V.int IntKind.u8 0, V.int IntKind.u8 0, V.int IntKind.u8 0, V.int IntKind.i64 0, V.int IntKind.i64 0, V.int IntKind.i64 0, V.int IntKind.i64 0, V.int IntKind.i64 0, V.int IntKind.i64 0, V.int IntKind.i64 0, V.int IntKind.u8 0, V.int IntKind.u8 0, V.int IntKind.u8 0, V.int IntKind.u8 0, V.int IntKind.u8 0, V.int IntKind.u8 0, V.int IntKind.u8 0, V.int IntKind.u8 0, V.int IntKind.i64 0, V.int IntKind.u8 0, V.int IntKind.u8 0, V.int IntKind.u8 0, V.int IntKind.u8 0, V.int IntKind.u8 0, V.int IntKind.u8 0, V.int IntKind.u8 0, V.int IntKind.u8 0, V.int IntKind.i64 0, V.int IntKind.u8 0, V.int IntKind.u8 0, V.int IntKind.u8 0, V.int IntKind.u8 0, V.int IntKind.u8 0, V.int IntKind.u8 0, V.int IntKind.u8 0, V.int IntKind.u8 0, V.int IntKind.i64 0, V.int IntKind.i64 0], V.int IntKind.i64 60], upd := [none], new := [] }) (Tree.leaf { v := V.tup [V.agg [V.int IntKind.i64 (dTy xs), V.int IntKind.i64 (xs.getD 4 0), V.int IntKind.i64 (dFl xs), V.int IntKind.i64 (dCo xs), V.int IntKind.u8 (xs.getD 20 0), V.int IntKind.u8 (xs.getD 21 0), V.int IntKind.u8 (xs.getD 22 0), V.int IntKind.u8 (xs.getD 23 0), V.int IntKind.u8 (xs.getD 24 0), V.int IntKind.u8 (xs.getD 25 0), V.int IntKind.u8 (xs.getD 26 0), V.int IntKind.u8 (xs.getD 27 0), V.int IntKind.i64 (dNum xs), V.int IntKind.i64 (dSe xs), V.int IntKind.i64 (dLo xs), V.int IntKind.i64 (sumF 0 (bytesAt xs 34 6)), V.int IntKind.i64 (sumF 0 (bytesAt xs 40 4)), V.int IntKind.u8 0, V.int IntKind.u8 0, V.int IntKind.u8 0, V.int IntKind.u8 0, V.int IntKind.u8 0, V.int IntKind.u8 0, V.int IntKind.u8 0, V.int IntKind.u8 0, V.int IntKind.i64 0, V.int IntKind.i64 (IntKind.i64.wrap (IntKind.i16.wrap (bOr IntKind.i64 (IntKind.i64.wrap (IntKind.i64.wrap (xs.getD 44 0) * 256)) (IntKind.i64.wrap (xs.getD 45 0))))), V.int IntKind.i64 (IntKind.i64.wrap (xs.getD 47 0)), V.int IntKind.i64 (IntKind.i64.wrap (xs.getD 52 0)), V.int IntKind.i64 (IntKind.i64.wrap (xs.getD 48 0)), V.int IntKind.i64 (IntKind.i64.wrap (xs.getD 49 0)), V.int IntKind.i64 (bOr IntKind.i64 (IntKind.i64.wrap (IntKind.i64.wrap (xs.getD 50 0) * 256)) (IntKind.i64.wrap (xs.getD 51 0))), V.int IntKind.u8 (xs.getD 53 0), V.int IntKind.u8 (xs.getD 54 0), V.int IntKind.u8 (xs.getD 55 0), V.int IntKind.u8 (xs.getD 56 0), V.int IntKind.u8 (xs.getD 57 0), V.int IntKind.u8 (xs.getD 58 0), V.int IntKind.u8 (xs.getD 59 0), V.int IntKind.u8 (xs.getD 60 0), V.int IntKind.i64 (bOr IntKind.i64 (IntKind.i64.wrap (IntKind.i64.wrap (xs.getD 61 0) * 256)) (IntKind.i64.wrap (xs.getD 62 0))), V.int IntKind.u8 (xs.getD 20 0), V.int IntKind.u8 (xs.getD 21 0), V.int IntKind.u8 (xs.getD 22 0), V.int IntKind.u8 (xs.getD 23 0), V.int IntKind.u8 (xs.getD 24 0), V.int IntKind.u8 (xs.getD 25 0), V.int IntKind.u8 (xs.getD 26 0), V.int IntKind.u8 (xs.getD 27 0), V.int IntKind.i64 (dNum xs), V.int IntKind.u8 0, V.int IntKind.u8 0, V.int IntKind.u8 0, V.int IntKind.u8 0, V.int IntKind.u8 0, V.int IntKind.u8 0, V.int IntKind.u8 0, V.int IntKind.u8 0, V.int IntKind.i64 0, V.int IntKind.i64 (IntKind.i64.wrap (xs.getD 63 0))], V.int IntKind.i64 0], upd := [none], new := [] })) Tree.fail) Tree.fail) Tree.fail) Tree.fail) Tree.fail) Tree.fail) Tree.fail) Tree.fail) Tree.fail) Tree.fail) Tree.fail) Tree.fail) Tree.fail) Tree.fail) Tree.fail) Tree.fail) Tree.fail) Tree.fail) Tree.fail) Tree.fail) Tree.fail) Tree.fail) Tree.fail) Tree.fail) Tree.fail) Tree.fail) Tree.fail)) Tree.fail) Tree.fail) Tree.fail) Tree.fail) Tree.fail) Tree.fail) Tree.fail) (Tree.ite (inI64 (dFl xs)) (Tree.ite (!rightM { h := { ty := dTy xs, dom := xs.getD 4 0, fl := dFl xs, co := dCo xs, src := { c := { b0 := xs.getD 20 0, b1 := xs.getD 21 0, b2 := xs.getD 22 0, b3 := xs.getD 23 0, b4 := xs.getD 24 0, b5 := xs.getD 25 0, b6 := xs.getD 26 0, b7 := xs.getD 27 0 }, n := dNum xs }, se := dSe xs, lo := dLo xs }, t := { sec := sumF 0 (bytesAt xs 34 6), ns := sumF 0 (bytesAt xs 40 4) }, ask := { c := { b0 := 0, b1 := 0, b2 := 0, b3 := 0, b4 := 0, b5 := 0, b6 := 0, b7 := 0 }, n := 0 }, off := 0, set := { p1 := 0, p2 := 0, q := { cl := 0, ac := 0, va := 0 }, g := { b0 := 0, b1 := 0, b2 := 0, b3 := 0, b4 := 0, b5 := 0, b6 := 0, b7 := 0 }, st := 0, snd := { c := { b0 := 0, b1 := 0, b2 := 0, b3 := 0, b4 := 0, b5 := 0, b6 := 0, b7 := 0 }, n := 0 }, rcv := { c := { b0 := 0, b1 := 0, b2 := 0, b3 := 0, b4 := 0, b5 := 0, b6 := 0, b7 := 0 }, n := 0 } }, src := 0 }) (Tree.leaf { v := V.tup [V.agg [V.int IntKind.i64 0, V.int IntKind.i64 0, V.int IntKind.i64 0, V.int IntKind.i64 0, V.int IntKind.u8 0, V.int IntKind.u8 0, V.int IntKind.u8 0, V.int IntKind.u8 0, V.int IntKind.u8 0, V.int IntKind.u8 0, V.int IntKind.u8 0, V.int IntKind.u8 0, V.int IntKind.i64 0, V.int IntKind.i64 0, V.int IntKind.i64 0, V.int IntKind.i64 0, V.int IntKind.i64 0, V.int IntKind.u8 0, V.int IntKind.u8 0, V.int IntKind.u8 0, V.int IntKind.u8 0, V.int IntKind.u8 0, V.int IntKind.u8 0, V.int IntKind.u8 0, V.int IntKind.u8 0, V.int IntKind.i64 0, V.int IntKind.i64 0, V.int IntKind.i64 0, V.int IntKind.i64 0, V.int IntKind.i64 0, V.int IntKind.i64 0, V.int IntKind.i64 0, V.int IntKind.u8 0, V.int IntKind.u8 0, V.int IntKind.u8 0, V.int IntKind.u8 0, V.int IntKind.u8 0, V.int IntKind.u8 0, V.int IntKind.u8 0, V.int IntKind.u8 0, V.int IntKind.i64 0, V.int IntKind.u8 0, V.int IntKind.u8 0, V.int IntKind.u8 0, V.int IntKind.u8 0, V.int IntKind.u8 0, V.int IntKind.u8 0, V.int IntKind.u8 0, V.int IntKind.u8 0, V.int IntKind.i64 0, V.int IntKind.u8 0, V.int IntKind.u8 0, V.int IntKind.u8 0, V.int IntKind.u8 0, V.int IntKind.u8 0, V.int IntKind.u8 0, V.int IntKind.u8 0, V.int IntKind.u8 0, V.int IntKind.i64 0, V.int IntKind.i64 0], V.int IntKind.i64 60], upd := [none], new := [] }) (Tree.leaf { v := V.tup [V.agg [V.int IntKind.i64 (dTy xs), V.int IntKind.i64 (xs.getD 4 0), V.int IntKind.i64 (dFl xs), V.int IntKind.i64 (dCo xs), V.int IntKind.u8 (xs.getD 20 0), V.int IntKind.u8 (xs.getD 21 0), V.int IntKind.u8 (xs.getD 22 0), V.int IntKind.u8 (xs.getD 23 0), V.int IntKind.u8 (xs.getD 24 0), V.int IntKind.u8 (xs.getD 25 0), V.int IntKind.u8 (xs.getD 26 0), V.int IntKind.u8 (xs.getD 27 0), V.int IntKind.i64 (dNum xs), V.int IntKind.i64 (dSe xs), V.int IntKind.i64 (dLo xs), V.int IntKind.i64 (sumF 0 (bytesAt xs 34 6)), V.int IntKind.i64 (sumF 0 (bytesAt xs 40 4)), V.int IntKind.u8 0, V.int IntKind.u8 0, V.int IntKind.u8 0, V.int IntKind.u8 0, V.int IntKind.u8 0, V.int IntKind.u8 0, V.int IntKind.u8 0, V.int IntKind.u8 0, V.int IntKind.i64 0, V.int IntKind.i64 0, V.int IntKind.i64 0, V.int IntKind.i64 0, V.int IntKind.i64 0, V.int IntKind.i64 0, V.int IntKind.i64 0, V.int IntKind.u8 0, V.int IntKind.u8 0, V.int IntKind.u8 0, V.int IntKind.u8 0, V.int IntKind.u8 0, V.int IntKind.u8 0, V.int IntKind.u8 0, V.int IntKind.u8 0, V.int IntKind.i64 0, V.int IntKind.u8 0, V.int IntKind.u8 0, V.int IntKind.u8 0, V.int IntKind.u8 0, V.int IntKind.u8 0, V.int IntKind.u8 0, V.int IntKind.u8 0, V.int IntKind.u8 0, V.int IntKind.i64 0, V.int IntKind.u8 0, V.int IntKind.u8 0, V.int IntKind.u8 0, V.int IntKind.u8 0, V.int IntKind.u8 0, V.int IntKind.u8 0, V.int IntKind.u8 0, V.int IntKind.u8 0, V.int IntKind.i64 0, V.int IntKind.i64 0], V.int IntKind.i64 0], upd := [none], new := [] })) Tree.fail))) (Tree.ite (dTy xs == 9) (Tree.ite (true && decide (10 ≤ (↑(xs.length - 34 - 10) : Int))) (Tree.ite (true && decide (10 ≤ (↑(xs.length - 34 - 10) : Int)) && decide ((↑(xs.length - 34 - 10) : Int) ≤ (↑(xs.length - 34 - 10) : Int))) (Tree.ite (allByte xs && true && decide (54 ≤ xs.length)) (Tree.leaf { v := V.tup [V.agg [V.int IntKind.i64 0, V.int IntKind.i64 0, V.int IntKind.i64 0, V.int IntKind.i64 0, V.int IntKind.u8 0, V.int IntKind.u8 0, V.int IntKind.u8 0, V.int IntKind.u8 0, V.int IntKind.u8 0, V.int IntKind.u8 0, V.int IntKind.u8 0, V.int IntKind.u8 0, V.int IntKind.i64 0, V.int IntKind.i64 0, V.int IntKind.i64 0, V.int IntKind.i64 0, V.int IntKind.i64 0, V.int IntKind.u8 0, V.int IntKind.u8 0, V.int IntKind.u8 0, V.int IntKind.u8 0, V.int IntKind.u8 0, V.int IntKind.u8 0, V.int IntKind.u8 0, V.int IntKind.u8 0, V.int IntKind.i64 0, V.int IntKind.i64 0, V.int IntKind.i64 0, V.int IntKind.i64 0, V.int IntKind.i64 0, V.int IntKind.i64 0, V.int IntKind.i64 0, V.int IntKind.u8 0, V.int IntKind.u8 0, V.int IntKind.u8 0, V.int IntKind.u8 0, V.int IntKind.u8 0, V.int IntKind.u8 0, V.int IntKind.u8 0, V.int IntKind.u8 0, V.int IntKind.i64 0, V.int IntKind.u8 0, V.int IntKind.u8 0, V.int IntKind.u8 0, V.int IntKind.u8 0, V.int IntKind.u8 0, V.int IntKind.u8 0, V.int IntKind.u8 0, V.int IntKind.u8 0, V.int IntKind.i64 0, V.int IntKind.u8 0, V.int IntKind.u8 0, V.int IntKind.u8 0, V.int IntKind.u8 0, V.int IntKind.u8 0, V.int IntKind.u8 0, V.int IntKind.u8 0, V.int IntKind.u8 0, V.int IntKind.i64 0, V.int IntKind.i64 0], V.int IntKind.i64 60], upd := [none], new := [] }) Tree.fail) Tree.fail) Tree.fail) (Tree.ite (dTy xs == 11) (Tree.ite (true && decide (2 ≤ (↑(xs.length - 34 - 10) : Int))) (Tree.ite (true && decide (2 ≤ (↑(xs.length - 34 - 10) : Int)) && decide ((↑(xs.length - 34 - 10) : Int) ≤ (↑(xs.length - 34 - 10) : Int))) (Tree.ite (decide (45 ≤ xs.length)) (Tree.ite (decide (46 ≤ xs.length)) (Tree.ite (true && decide (1 ≤ (↑(xs.length - 34 - 10 - 2) : Int))) (Tree.ite (true && decide (1 ≤ (↑(xs.length - 34 - 10 - 2) : Int)) && decide ((↑(xs.length - 34 - 10 - 2) : Int) ≤ (↑(xs.length - 34 - 10 - 2) : Int))) (Tree.ite (decide (47 ≤ xs.length)) (Tree.ite (IntKind.i64.wrap (xs.getD 46 0) != 0) (Tree.ite (true && decide (1 ≤ (↑(xs.length - 34 - 10 - 2 - 1) : Int))) (Tree.ite (true && decide (1 ≤ (↑(xs.length - 34 - 10 - 2 - 1) : Int)) && decide ((↑(xs.length - 34 - 10 - 2 - 1) : Int) ≤ (↑(xs.length - 34 - 10 - 2 - 1) : Int))) (Tree.ite (decide (48 ≤ xs.length)) (Tree.ite (true && decide (1 ≤ (↑(xs.length - 34 - 10 - 2 - 1 - 1) : Int))) (Tree.ite (true && decide (1 ≤ (↑(xs.length - 34 - 10 - 2 - 1 - 1) : Int)) && decide ((↑(xs.length - 34 - 10 - 2 - 1 - 1) : Int) ≤ (↑(xs.length - 34 - 10 - 2 - 1 - 1) : Int))) (Tree.ite (decide (49 ≤ xs.length)) (Tree.ite (true && decide (1 ≤ (↑(xs.length - 34 - 10 - 2 - 1 - 1 - 1) : Int))) (Tree.ite (true && decide (1 ≤ (↑(xs.length - 34 - 10 - 2 - 1 - 1 - 1) : Int)) && decide ((↑(xs.length - 34 - 10 - 2 - 1 - 1 - 1) : Int) ≤ (↑(xs.length - 34 - 10 - 2 - 1 - 1 - 1) : Int))) (Tree.ite (decide (50 ≤ xs.length)) (Tree.ite (true && decide (2 ≤ (↑(xs.length - 34 - 10 - 2 - 1 - 1 - 1 - 1) : Int))) (Tree.ite (true && decide (2 ≤ (↑(xs.length - 34 - 10 - 2 - 1 - 1 - 1 - 1) : Int)) && decide ((↑(xs.length - 34 - 10 - 2 - 1 - 1 - 1 - 1) : Int) ≤ (↑(xs.length - 34 - 10 - 2 - 1 - 1 - 1 - 1) : Int))) (Tree.ite (decide (51 ≤ xs.length)) (Tree.ite (decide (52 ≤ xs.length)) (Tree.ite (true && decide (1 ≤ (↑(xs.length - 34 - 10 - 2 - 1 - 1 - 1 - 1 - 2) : Int))) (Tree.ite (true && decide (1 ≤ (↑(xs.length - 34 - 10 - 2 - 1 - 1 - 1 - 1 - 2) : Int)) && decide ((↑(xs.length - 34 - 10 - 2 - 1 - 1 - 1 - 1 - 2) : Int) ≤ (↑(xs.length - 34 - 10 - 2 - 1 - 1 - 1 - 1 - 2) : Int))) (Tree.ite (decide (53 ≤ xs.length)) (Tree.ite (true && decide (8 ≤ (↑(xs.length - 34 - 10 - 2 - 1 - 1 - 1 - 1 - 2 - 1) : Int))) (Tree.ite (true && decide (8 ≤ (↑(xs.length - 34 - 10 - 2 - 1 - 1 - 1 - 1 - 2 - 1) : Int)) && decide ((↑(xs.length - 34 - 10 - 2 - 1 - 1 - 1 - 1 - 2 - 1) : Int) ≤ (↑(xs.length - 34 - 10 - 2 - 1 - 1 - 1 - 1 - 2 - 1) : Int))) (Tree.ite (decide (61 ≤ xs.length)) (Tree.ite (true && decide (2 ≤ (↑(xs.length - 34 - 10 - 2 - 1 - 1 - 1 - 1 - 2 - 1 - 8) : Int))) (Tree.ite (true && decide (2 ≤ (↑(xs.length - 34 - 10 - 2 - 1 - 1 - 1 - 1 - 2 - 1 - 8) : Int)) && decide ((↑(xs.length - 34 - 10 - 2 - 1 - 1 - 1 - 1 - 2 - 1 - 8) : Int) ≤ (↑(xs.length - 34 - 10 - 2 - 1 - 1 - 1 - 1 - 2 - 1 - 8) : Int))) (Tree.ite (decide (62 ≤ xs.length)) (Tree.ite (decide (63 ≤ xs.length)) (Tree.ite (true && decide (1 ≤ (↑(xs.length - 34 - 10 - 2 - 1 - 1 - 1 - 1 - 2 - 1 - 8 - 2) : Int))) (Tree.ite (true && decide (1 ≤ (↑(xs.length - 34 - 10 - 2 - 1 - 1 - 1 - 1 - 2 - 1 - 8 - 2) : Int)) && decide ((↑(xs.length - 34 - 10 - 2 - 1 - 1 - 1 - 1 - 2 - 1 - 8 - 2) : Int) ≤ (↑(xs.length - 34 - 10 - 2 - 1 - 1 - 1 - 1 - 2 - 1 - 8 - 2) : Int))) (Tree.ite (decide (64 ≤ xs.length)) (Tree.leaf { v := V.tup [V.agg [V.int IntKind.i64 0, V.int IntKind.i64 0, V.int IntKind.i64 0, V.int IntKind.i64 0, V.int IntKind.u8 0, V.int IntKind.u8 0, V.int IntKind.u8 0, V.int IntKind.u8 0, V.int IntKind.u8 0, V.int IntKind.u8 0, V.int IntKind.u8 0, V.int IntKind.u8 0, V.int IntKind.i64 0, V.int IntKind.i64 0, V.int IntKind.i64 0, V.int IntKind.i64 0, V.int IntKind.i64 0, V.int IntKind.u8 0, V.int IntKind.u8 0, V.int IntKind.u8 0, V.int IntKind.u8 0, V.int IntKind.u8 0, V.int IntKind.u8 0, V.int IntKind.u8 0, V.int IntKind.u8 0, V.int IntKind.i64 0, V.int IntKind.i64 0, V.int IntKind.i64 0, V.int IntKind.i64 0, V.int IntKind.i64 0, V.int IntKind.i64 0, V.int IntKind.i64 0, V.int IntKind.u8 0, V.int IntKind.u8 0, V.int IntKind.u8 0, V.int IntKind.u8 0, V.int IntKind.u8 0, V.int IntKind.u8 0, V.int IntKind.u8 0, V.int IntKind.u8 0, V.int IntKind.i64 0, V.int IntKind.u8 0, V.int IntKind.u8 0, V.int IntKind.u8 0, V.int IntKind.u8 0, V.int IntKind.u8 0, V.int IntKind.u8 0, V.int IntKind.u8 0, V.int IntKind.u8 0, V.int IntKind.i64 0, V.int IntKind.u8 0, V.int IntKind.u8 0, V.int IntKind.u8 0, V.int IntKind.u8 0, V.int IntKind.u8 0, V.int IntKind.u8 0, V.int IntKind.u8 0, V.int IntKind.u8 0, V.int IntKind.i64 0, V.int IntKind.i64 0], V.int IntKind.i64 60], upd := [none], new := [] }) Tree.fail) Tree.fail) Tree.fail) Tree.fail) Tree.fail) Tree.fail) Tree.fail) Tree.fail) Tree.fail) Tree.fail) Tree.fail) Tree.fail) Tree.fail) Tree.fail) Tree.fail) Tree.fail) Tree.fail) Tree.fail) Tree.fail) Tree.fail) Tree.fail) Tree.fail) Tree.fail) Tree.fail) Tree.fail) Tree.fail) (Tree.ite (true && decide (1 ≤ (↑(xs.length - 34 - 10 - 2 - 1) : Int))) (Tree.ite (true && decide (1 ≤ (↑(xs.length - 34 - 10 - 2 - 1) : Int)) && decide ((↑(xs.length - 34 - 10 - 2 - 1) : Int) ≤ (↑(xs.length - 34 - 10 - 2 - 1) : Int))) (Tree.ite (decide (48 ≤ xs.length)) (Tree.ite (true && decide (1 ≤ (↑(xs.length - 34 - 10 - 2 - 1 - 1) : Int))) (Tree.ite (true && decide (1 ≤ (↑(xs.length - 34 - 10 - 2 - 1 - 1) : Int)) && decide ((↑(xs.length - 34 - 10 - 2 - 1 - 1) : Int) ≤ (↑(xs.length - 34 - 10 - 2 - 1 - 1) : Int))) (Tree.ite (decide (49 ≤ xs.length)) (Tree.ite (true && decide (1 ≤ (↑(xs.length - 34 - 10 - 2 - 1 - 1 - 1) : Int))) (Tree.ite (true && decide (1 ≤ (↑(xs.length - 34 - 10 - 2 - 1 - 1 - 1) : Int)) && decide ((↑(xs.length - 34 - 10 - 2 - 1 - 1 - 1) : Int) ≤ (↑(xs.length - 34 - 10 - 2 - 1 - 1 - 1) : Int))) (Tree.ite (decide (50 ≤ xs.length)) (Tree.ite (true && decide (2 ≤ (↑(xs.length - 34 - 10 - 2 - 1 - 1 - 1 - 1) : Int))) (Tree.ite (true && decide (2 ≤ (↑(xs.length - 34 - 10 - 2 - 1 - 1 - 1 - 1) : Int)) && decide ((↑(xs.length - 34 - 10 - 2 - 1 - 1 - 1 - 1) : Int) ≤ (↑(xs.length - 34 - 10 - 2 - 1 - 1 - 1 - 1) : Int))) (Tree.ite (decide (51 ≤ xs.length)) (Tree.ite (decide (52 ≤ xs.length)) (Tree.ite (true && decide (1 ≤ (↑(xs.length - 34 - 10 - 2 - 1 - 1 - 1 - 1 - 2) : Int))) (Tree.ite (true && decide (1 ≤ (↑(xs.length - 34 - 10 - 2 - 1 - 1 - 1 - 1 - 2) : Int)) && decide ((↑(xs.length - 34 - 10 - 2 - 1 - 1 - 1 - 1 - 2) : Int) ≤ (↑(xs.length - 34 - 10 - 2 - 1 - 1 - 1 - 1 - 2) : Int))) (Tree.ite (decide (53 ≤ xs.length)) (Tree.ite (true && decide (8 ≤ (↑(xs.length - 34 - 10 - 2 - 1 - 1 - 1 - 1 - 2 - 1) : Int))) (Tree.ite (true && decide (8 ≤ (↑(xs.length - 34 - 10 - 2 - 1 - 1 - 1 - 1 - 2 - 1) : Int)) && decide ((↑(xs.length - 34 - 10 - 2 - 1 - 1 - 1 - 1 - 2 - 1) : Int) ≤ (↑(xs.length - 34 - 10 - 2 - 1 - 1 - 1 - 1 - 2 - 1) : Int))) (Tree.ite (decide (61 ≤ xs.length)) (Tree.ite (true && decide (2 ≤ (↑(xs.length - 34 - 10 - 2 - 1 - 1 - 1 - 1 - 2 - 1 - 8) : Int))) (Tree.ite (true && decide (2 ≤ (↑(xs.length - 34 - 10 - 2 - 1 - 1 - 1 - 1 - 2 - 1 - 8) : Int)) && decide ((↑(xs.length - 34 - 10 - 2 - 1 - 1 - 1 - 1 - 2 - 1 - 8) : Int) ≤ (↑(xs.length - 34 - 10 - 2 - 1 - 1 - 1 - 1 - 2 - 1 - 8) : Int))) (Tree.ite (decide (62 ≤ xs.length)) (Tree.ite (decide (63 ≤ xs.length)) (Tree.ite (true && decide (1 ≤ (↑(xs.length - 34 - 10 - 2 - 1 - 1 - 1 - 1 - 2 - 1 - 8 - 2) : Int))) (Tree.ite (true && decide (1 ≤ (↑(xs.length - 34 - 10 - 2 - 1 - 1 - 1 - 1 - 2 - 1 - 8 - 2) : Int)) && decide ((↑(xs.length - 34 - 10 - 2 - 1 - 1 - 1 - 1 - 2 - 1 - 8 - 2) : Int) ≤ (↑(xs.length - 34 - 10 - 2 - 1 - 1 - 1 - 1 - 2 - 1 - 8 - 2) : Int))) (Tree.ite (decide (64 ≤ xs.length)) (Tree.leaf { v := V.tup [V.agg [V.int IntKind.i64 0, V.int IntKind.i64 0, V.int IntKind.i64 0, V.int IntKind.i64 0, V.int IntKind.u8 0, V.int IntKind.u8 0, V.int IntKind.u8 0, V.int IntKind.u8 0, V.int IntKind.u8 0, V.int IntKind.u8 0, V.int IntKind.u8 0, V.int IntKind.u8 0, V.int IntKind.i64 0, V.int IntKind.i64 0, V.int IntKind.i64 0, V.int IntKind.i64 0, V.int IntKind.i64 0, V.int IntKind.u8 0, V.int IntKind.u8 0, V.int IntKind.u8 0, V.int IntKind.u8 0, V.int IntKind.u8 0, V.int IntKind.u8 0, V.int IntKind.u8 0, V.int IntKind.u8 0, V.int IntKind.i64 0, V.int IntKind.i64 0, V.int IntKind.i64 0, V.int IntKind.i64 0, V.int IntKind.i64 0, V.int IntKind.i64 0, V.int IntKind.i64 0, V.int IntKind.u8 0, V.int IntKind.u8 0, V.int IntKind.u8 0, V.int IntKind.u8 0, V.int IntKind.u8 0, V.int IntKind.u8 0, V.int IntKind.u8 0, V.int IntKind.u8 0, V.int IntKind.i64 0, V.int IntKind.u8 0, V.int IntKind.u8 0, V.int IntKind.u8 0, V.int IntKind.u8 0, V.int IntKind.u8 0, V.int IntKind.u8 0, V.int IntKind.u8 0, V.int IntKind.u8 0, V.int IntKind.i64 0, V.int IntKind.u8 0, V.int IntKind.u8 0, V.int IntKind.u8 0, V.int IntKind.u8 0, V.int IntKind.u8 0, V.int IntKind.u8 0, V.int IntKind.u8 0, V.int IntKind.u8 0, V.int IntKind.i64 0, V.int IntKind.i64 0], V.int IntKind.i64 60], upd := [none], new := [] }) Tree.fail) Tree.fail) Tree.fail) Tree.fail) Tree.fail) Tree.fail) Tree.fail) Tree.fail) Tree.fail) Tree.fail) Tree.fail) Tree.fail) Tree.fail) Tree.fail) Tree.fail) Tree.fail) Tree.fail) Tree.fail) Tree.fail) Tree.fail) Tree.fail) Tree.fail) Tree.fail) Tree.fail) Tree.fail) Tree.fail)) Tree.fail) Tree.fail) Tree.fail) Tree.fail) Tree.fail) Tree.fail) Tree.fail) (Tree.leaf { v := V.tup [V.agg [V.int IntKind.i64 0, V.int IntKind.i64 0, V.int IntKind.i64 0, V.int IntKind.i64 0, V.int IntKind.u8 0, V.int IntKind.u8 0, V.int IntKind.u8 0, V.int IntKind.u8 0, V.int IntKind.u8 0, V.int IntKind.u8 0, V.int IntKind.u8 0, V.int IntKind.u8 0, V.int IntKind.i64 0, V.int IntKind.i64 0, V.int IntKind.i64 0, V.int IntKind.i64 0, V.int IntKind.i64 0, V.int IntKind.u8 0, V.int IntKind.u8 0, V.int IntKind.u8 0, V.int IntKind.u8 0, V.int IntKind.u8 0, V.int IntKind.u8 0, V.int IntKind.u8 0, V.int IntKind.u8 0, V.int IntKind.i64 0, V.int IntKind.i64 0, V.int IntKind.i64 0, V.int IntKind.i64 0, V.int IntKind.i64 0, V.int IntKind.i64 0, V.int IntKind.i64 0, V.int IntKind.u8 0, V.int IntKind.u8 0, V.int IntKind.u8 0, V.int IntKind.u8 0, V.int IntKind.u8 0, V.int IntKind.u8 0, V.int IntKind.u8 0, V.int IntKind.u8 0, V.int IntKind.i64 0, V.int IntKind.u8 0, V.int IntKind.u8 0, V.int IntKind.u8 0, V.int IntKind.u8 0, V.int IntKind.u8 0, V.int IntKind.u8 0, V.int IntKind.u8 0, V.int IntKind.u8 0, V.int IntKind.i64 0, V.int IntKind.u8 0, V.int IntKind.u8 0, V.int IntKind.u8 0, V.int IntKind.u8 0, V.int IntKind.u8 0, V.int IntKind.u8 0, V.int IntKind.u8 0, V.int IntKind.u8 0, V.int IntKind.i64 0, V.int IntKind.i64 0], V.int IntKind.i64 60], upd := [none], new := [] })))) Tree.fail) Tree.fail) Tree.fail) Tree.fail) (Tree.ite (decErr xs != 0) (Tree.leaf { v := V.tup [V.agg [V.int IntKind.i64 0, V.int IntKind.i64 0, V.int IntKind.i64 0, V.int IntKind.i64 0, V.int IntKind.u8 0, V.int IntKind.u8 0, V.int IntKind.u8 0, V.int IntKind.u8 0, V.int IntKind.u8 0, V.int IntKind.u8 0, V.int IntKind.u8 0, V.int IntKind.u8 0, V.int IntKind.i64 0, V.int IntKind.i64 0, V.int IntKind.i64 0, V.int IntKind.i64 0, V.int IntKind.i64 0, V.int IntKind.u8 0, V.int IntKind.u8 0, V.int IntKind.u8 0, V.int IntKind.u8 0, V.int IntKind.u8 0, V.int IntKind.u8 0, V.int IntKind.u8 0, V.int IntKind.u8 0, V.int IntKind.i64 0, V.int IntKind.i64 0, V.int IntKind.i64 0, V.int IntKind.i64 0, V.int IntKind.i64 0, V.int IntKind.i64 0, V.int IntKind.i64 0, V.int IntKind.u8 0, V.int IntKind.u8 0, V.int IntKind.u8 0, V.int IntKind.u8 0, V.int IntKind.u8 0, V.int IntKind.u8 0, V.int IntKind.u8 0, V.int IntKind.u8 0, V.int IntKind.i64 0, V.int IntKind.u8 0, V.int IntKind.u8 0, V.int IntKind.u8 0, V.int IntKind.u8 0, V.int IntKind.u8 0, V.int IntKind.u8 0, V.int IntKind.u8 0, V.int IntKind.u8 0, V.int IntKind.i64 0, V.int IntKind.u8 0, V.int IntKind.u8 0, V.int IntKind.u8 0, V.int IntKind.u8 0, V.int IntKind.u8 0, V.int IntKind.u8 0, V.int IntKind.u8 0, V.int IntKind.u8 0, V.int IntKind.i64 0, V.int IntKind.i64 0], V.int IntKind.i64 (decErr xs)], upd := [none], new := [] }) (Tree.ite (true && decide (34 ≤ (↑xs.length : Int)) && decide ((↑xs.length : Int) ≤ (↑xs.length : Int))) (Tree.ite (true && decide (10 ≤ (↑(xs.length - 34) : Int))) (Tree.ite (true && decide (10 ≤ (↑(xs.length - 34) : Int)) && decide ((↑(xs.length - 34) : Int) ≤ (↑(xs.length - 34) : Int))) (Tree.ite (allByte xs && decide (44 ≤ xs.length)) (Tree.ite (decide (sumF 0 (bytesAt xs 40 4) ≤ 999999999)) (Tree.leaf { v := V.tup [V.agg [V.int IntKind.i64 0, V.int IntKind.i64 0, V.int IntKind.i64 0, V.int IntKind.i64 0, V.int IntKind.u8 0, V.int IntKind.u8 0, V.int IntKind.u8 0, V.int IntKind.u8 0, V.int IntKind.u8 0, V.int IntKind.u8 0, V.int IntKind.u8 0, V.int IntKind.u8 0, V.int IntKind.i64 0, V.int IntKind.i64 0, V.int IntKind.i64 0, V.int IntKind.i64 0, V.int IntKind.i64 0, V.int IntKind.u8 0, V.int IntKind.u8 0, V.int IntKind.u8 0, V.int IntKind.u8 0, V.int IntKind.u8 0, V.int IntKind.u8 0, V.int IntKind.u8 0, V.int IntKind.u8 0, V.int IntKind.i64 0, V.int IntKind.i64 0, V.int IntKind.i64 0, V.int IntKind.i64 0, V.int IntKind.i64 0, V.int IntKind.i64 0, V.int IntKind.i64 0, V.int IntKind.u8 0, V.int IntKind.u8 0, V.int IntKind.u8 0, V.int IntKind.u8 0, V.int IntKind.u8 0, V.int IntKind.u8 0, V.int IntKind.u8 0, V.int IntKind.u8 0, V.int IntKind.i64 0, V.int IntKind.u8 0, V.int IntKind.u8 0, V.int IntKind.u8 0, V.int IntKind.u8 0, V.int IntKind.u8 0, V.int IntKind.u8 0, V.int IntKind.u8 0, V.int IntKind.u8 0, V.int IntKind.i64 0, V.int IntKind.u8 0, V.int IntKind.u8 0, V.int IntKind.u8 0, V.int IntKind.u8 0, V.int IntKind.u8 0, V.int IntKind.u8 0, V.int IntKind.u8 0, V.int IntKind.u8 0, V.int IntKind.i64 0, V.int IntKind.i64 0], V.int IntKind.i64 60], upd := [none], new := [] }) (Tree.leaf { v := V.tup [V.agg [V.int IntKind.i64 0, V.int IntKind.i64 0, V.int IntKind.i64 0, V.int IntKind.i64 0, V.int IntKind.u8 0, V.int IntKind.u8 0, V.int IntKind.u8 0, V.int IntKind.u8 0, V.int IntKind.u8 0, V.int IntKind.u8 0, V.int IntKind.u8 0, V.int IntKind.u8 0, V.int IntKind.i64 0, V.int IntKind.i64 0, V.int IntKind.i64 0, V.int IntKind.i64 0, V.int IntKind.i64 0, V.int IntKind.u8 0, V.int IntKind.u8 0, V.int IntKind.u8 0, V.int IntKind.u8 0, V.int IntKind.u8 0, V.int IntKind.u8 0, V.int IntKind.u8 0, V.int IntKind.u8 0, V.int IntKind.i64 0, V.int IntKind.i64 0, V.int IntKind.i64 0, V.int IntKind.i64 0, V.int IntKind.i64 0, V.int IntKind.i64 0, V.int IntKind.i64 0, V.int IntKind.u8 0, V.int IntKind.u8 0, V.int IntKind.u8 0, V.int IntKind.u8 0, V.int IntKind.u8 0, V.int IntKind.u8 0, V.int IntKind.u8 0, V.int IntKind.u8 0, V.int IntKind.i64 0, V.int IntKind.u8 0, V.int IntKind.u8 0, V.int IntKind.u8 0, V.int IntKind.u8 0, V.int IntKind.u8 0, V.int IntKind.u8 0, V.int IntKind.u8 0, V.int IntKind.u8 0, V.int IntKind.i64 0, V.int IntKind.u8 0, V.int IntKind.u8 0, V.int IntKind.u8 0, V.int IntKind.u8 0, V.int IntKind.u8 0, V.int IntKind.u8 0, V.int IntKind.u8 0, V.int IntKind.u8 0, V.int IntKind.i64 0, V.int IntKind.i64 0], V.int IntKind.i64 60], upd := [none], new := [] })) Tree.fail) Tree.fail) Tree.fail) Tree.fail))) Tree.fail) from by kernel_rfl]
    simp only [denN_ite, denN_leaf, denN_fail]
    have hs' := hs
    simp only [Bool.and_eq_true, decide_eq_true_eq] at hs'
    have hb := hs'.1.1
    have hxl : decide (xs.length ≤ 9223372036854775806) = true := decide_eq_true hs'.2
    by_cases h0 : decErr xs = 0
    · obtain ⟨k1, k2, k3, k4, k5⟩ := told_right hb h0
      have g := allByte_getD hb
      obtain ⟨s1, s2, s3, s4⟩ := secs_of g
      have b0 : (decErr xs == 0) = true := by simpa using h0
      have hm0 : mErr xs = if okBody xs = true then 0 else 60 := by unfold mErr; rw [if_neg (by omega)]
      have hns : sumF 0 (bytesAt xs 40 4) = dNs xs := rfl
      have hse : sumF 0 (bytesAt xs 34 6) = dSec xs := rfl
      have hin : inI64 (dFl xs) = true := by
        have g6 := g 6
        have g7 := g 7
        rw [inI64_iff]; unfold dFl; omega
      rw [hm0, hns, hse]
      unfold okBody
      by_cases h9 : dTy xs = 9
      · have hlen : xs.length = 54 := by rw [h9] at k4; simp [longZ] at k4; omega
        have h9' : (dTy xs == 9) = true := by simpa using h9
        have h11' : (dTy xs == 11) = false := by rw [h9]; rfl
        simp only [hb, b0, h9', h11', hin, hlen, decide_true, Bool.true_and, Bool.and_true, if_true, Nat.reduceSub, Nat.reduceLeDiff, Int.cast_ofNat_Int, Int.reduceLE, Bool.not_false, Bool.true_or, Bool.and_self]
        by_cases hn : dNs xs ≤ 999999999
        · rw [if_pos (by simpa using hn), show decide (dNs xs ≤ 999999999) = true by simpa using hn, Bool.true_and]
          show (if (!rightM (⟨dHd xs, ⟨dSec xs, dNs xs⟩, dAsk xs, 0, Ste.zero, 0⟩ : Msg)) = true then resD Msg.zero 60 else resD ⟨dHd xs, ⟨dSec xs, dNs xs⟩, dAsk xs, 0, Ste.zero, 0⟩ 0) = _
          rw [← dMsg9 h9 hn]
          cases rightM (dMsg xs) <;> rfl
        · rw [if_neg (by simpa using hn), show decide (dNs xs ≤ 999999999) = false by simpa using hn, Bool.false_and]
          rfl
      · have h9' : (dTy xs == 9) = false := by simpa using h9
        by_cases h11 : dTy xs = 11
        · have hlen : xs.length = 64 := by rw [h11] at k4; simp [longZ] at k4; omega
          have h11' : (dTy xs == 11) = true := by simpa using h11
          simp only [hb, b0, h9', h11', hin, hlen, decide_true, Bool.true_and, Bool.and_true, if_true, Bool.false_eq_true, if_false, Nat.reduceSub, Nat.reduceLeDiff, Int.cast_ofNat_Int, Int.reduceLE, Bool.not_true, Bool.false_or, Bool.and_self]
          have wr (i : Nat) : IntKind.i64.wrap (xs.getD i 0) = xs.getD i 0 := by have := g i; exact wrap64_id (by omega) (by omega)
          have ow (i j : Nat) : bOr .i64 (IntKind.i64.wrap (xs.getD i 0 * 256)) (xs.getD j 0) = xs.getD i 0 * 256 + xs.getD j 0 := by
            have hi := g i
            have hj := g j
            have := orS (a := xs.getD i 0) hj.1 hj.2 hi.1 (by omega)
            rwa [wr j] at this
          have ho : IntKind.i64.wrap (IntKind.i16.wrap (xs.getD 44 0 * 256 + xs.getD 45 0)) = dOff xs := by
            have h4 := g 44
            have h5 := g 45
            have e : IntKind.i16.wrap (xs.getD 44 0 * 256 + xs.getD 45 0) = dOff xs := by
              rw [wrap16s]
              unfold dOff
              split <;> split <;> omega
            rw [e]
            unfold dOff
            split <;> exact wrap64_id (by omega) (by omega)
          simp only [ow, wr, ho]
          by_cases hn : dNs xs ≤ 999999999
          · rw [if_pos (by simpa using hn), show decide (dNs xs ≤ 999999999) = true by simpa using hn, Bool.true_and]
            by_cases h46 : xs.getD 46 0 = 0
            · rw [if_neg (by simp only [h46, bne_self_eq_false]; simp), h46]
              show (if (!rightM (⟨dHd xs, ⟨dSec xs, dNs xs⟩, Prt.zero, dOff xs, dSet xs, xs.getD 63 0⟩ : Msg)) = true then resD Msg.zero 60 else resD ⟨dHd xs, ⟨dSec xs, dNs xs⟩, Prt.zero, dOff xs, dSet xs, xs.getD 63 0⟩ 0) = _
              rw [← dMsg11 h11 hn]
              cases rightM (dMsg xs) <;> rfl
            · rw [if_pos (by simpa [-List.getD_eq_getElem?_getD] using h46), show (xs.getD 46 0 == 0) = false by simpa [-List.getD_eq_getElem?_getD] using h46, Bool.false_and]
              rfl
          · rw [if_neg (by simpa using hn), show decide (dNs xs ≤ 999999999) = false by simpa using hn, Bool.false_and]
            split <;> rfl
        · have hlen : xs.length = 44 := by
            have : longZ (dTy xs) = 44 := by
              rcases (right_facts k2).1 with h | h | h | h | h <;> rw [h] <;> first | rfl | omega
            omega
          have h11' : (dTy xs == 11) = false := by simpa using h11
          simp only [hb, b0, h9', h11', hin, hlen, decide_true, Bool.true_and, Bool.and_true, if_true, Bool.false_eq_true, if_false, Nat.reduceSub, Nat.reduceLeDiff, Int.cast_ofNat_Int, Int.reduceLE, Bool.not_false, Bool.true_or, Bool.and_self]
          by_cases hn : dNs xs ≤ 999999999
          · rw [if_pos (by simpa using hn), show decide (dNs xs ≤ 999999999) = true by simpa using hn, Bool.true_and]
            show (if (!rightM (⟨dHd xs, ⟨dSec xs, dNs xs⟩, Prt.zero, 0, Ste.zero, 0⟩ : Msg)) = true then resD Msg.zero 60 else resD ⟨dHd xs, ⟨dSec xs, dNs xs⟩, Prt.zero, 0, Ste.zero, 0⟩ 0) = _
            rw [← dMsg0 h9 h11 hn]
            cases rightM (dMsg xs) <;> rfl
          · rw [if_neg (by simpa using hn), show decide (dNs xs ≤ 999999999) = false by simpa using hn, Bool.false_and]
            rfl
    · have b0 : (decErr xs == 0) = false := by simpa using h0
      have hm0 : mErr xs = decErr xs := by unfold mErr; rw [if_pos h0]
      simp only [hb, hxl, b0, decide_true, Bool.true_and, Bool.and_true, if_true, Bool.false_eq_true, if_false, hm0]
      rw [if_pos (by simpa using h0)]
      rfl
  · simp [den_fail] at h
end Go.Proofs.Ythjldfmlclpdbaa

set_option maxRecDepth 100000
set_option linter.unusedSimpArgs false
set_option linter.unusedVariables false
namespace Go.Proofs.Ythjldfmlclpdbaa
open Go.Rx

theorem bytesOf_inj {xs ys : List Int} (hx : allByte xs = true) (hy : allByte ys = true) : sEq (bytesOf xs) (bytesOf ys) = decide (xs = ys) := by
  have e : ∀ zs, allByte zs = true → ∀ x ∈ zs, 0 ≤ x ∧ x < 256 := by
    intro zs hz x hx
    unfold allByte at hz
    have := List.all_eq_true.1 hz x hx
    rw [byteZ_iff] at this
    omega
  rw [Bool.eq_iff_iff, decide_eq_true_eq]
  constructor
  · intro h
    have h1 : (bytesOf xs).toList = (bytesOf ys).toList := by simpa [sEq] using h
    have h2 : numsOf (bytesOf xs) = numsOf (bytesOf ys) := by
      have e3 : ∀ s : ByteArray, numsOf s = s.toList.map fun b => (b.toNat : Int) := by
        intro s
        rw [numsOf]
        congr 1
        exact (ByteArray.toList_eq s).symm
      rw [e3, e3, h1]
    rwa [numsOf_bytesOf xs (e xs hx), numsOf_bytesOf ys (e ys hy)] at h2
  · rintro rfl
    exact sEq_refl _

def tailM (M : Msg) (xs : List Int) : Option Res :=
  if (inI64 (dFl xs) && msgZ M) = true then if rightM M = true then if decide (0 + (msgBytes M).length ≤ (msgBytes M).length) = true then if decide (0 + xs.length ≤ xs.length) = true then
    if (!sEq (bytesOf (List.take (msgBytes M).length (List.drop 0 (msgBytes M)))) (bytesOf (List.take xs.length (List.drop 0 xs)))) = true then resD Msg.zero 60 else resD M 0 else none else none else resD Msg.zero 60 else none
theorem dMsg_z {xs : List Int} (hb : allByte xs = true) (k3 : inI64 (dCo xs) = true) : msgZ (dMsg xs) = true := by
  have g := allByte_getD hb
  have bz (i : Nat) : byteZ (xs.getD i 0) = true := byteZ_iff.2 (g i)
  have z0 : byteZ 0 = true := rfl
  have h1 : ckZ (dMsg xs).h.src.c = true := by simp only [ckZ, dMsg, dHd, bz, Bool.and_self]
  have h2 : ckZ (dMsg xs).ask.c = true := by
    show ckZ (if dTy xs = 9 then dAsk xs else Prt.zero).c = true
    split
    · simp only [ckZ, dAsk, bz, Bool.and_self]
    · rfl
  have h3 : ckZ (dMsg xs).set.g = true := by
    show ckZ (if dTy xs = 11 then dSet xs else Ste.zero).g = true
    split
    · simp only [ckZ, dSet, bz, Bool.and_self]
    · rfl
  have h0 : inI64 (dMsg xs).h.co = true := k3
  simp only [msgZ, h0, h1, h2, h3, Bool.and_self]
theorem tail_ok {xs : List Int} (hb : allByte xs = true) (h0 : decErr xs = 0) : tailM (dMsg xs) xs = if (mErr xs == 0) = true then resD (dMsg xs) 0 else resD Msg.zero (mErr xs) := by
  obtain ⟨k1, k2, k3, k4, k5⟩ := told_right hb h0
  have g := allByte_getD hb
  have hin : inI64 (dFl xs) = true := by
    have g6 := g 6
    have g7 := g 7
    rw [inI64_iff]; unfold dFl; omega
  have hz := dMsg_z hb k3
  have hm0 : mErr xs = if okBody xs = true then 0 else 60 := by unfold mErr; rw [if_neg (by omega)]
  have hok := body_ok hb h0
  unfold tailM
  rw [hm0, ← hok, if_pos (by simp [hin, hz])]
  cases hR : rightM (dMsg xs) with
  | false => rfl
  | true =>
    rw [if_pos rfl, if_pos (by simp), if_pos (by simp), List.drop_zero, List.drop_zero, List.take_length, List.take_length, bytesOf_inj (msg_bytes hR hz) hb, Bool.true_and]
    cases decide (msgBytes (dMsg xs) = xs) <;> rfl
theorem dMsg9' {xs : List Int} (h : dTy xs = 9) (hn : ¬ dNs xs ≤ 999999999) : dMsg xs = ⟨dHd xs, Stm.zero, dAsk xs, 0, Ste.zero, 0⟩ := by
  unfold dMsg dTime; rw [if_neg hn, if_pos h, if_neg (by omega), if_neg (by omega), if_neg (by omega)]
theorem dMsg11' {xs : List Int} (h : dTy xs = 11) (hn : ¬ dNs xs ≤ 999999999) : dMsg xs = ⟨dHd xs, Stm.zero, Prt.zero, dOff xs, dSet xs, xs.getD 63 0⟩ := by
  unfold dMsg dTime; rw [if_neg hn, if_neg (by omega), if_pos h, if_pos h, if_pos h]
theorem dMsg0' {xs : List Int} (h9 : ¬ dTy xs = 9) (h11 : ¬ dTy xs = 11) (hn : ¬ dNs xs ≤ 999999999) : dMsg xs = ⟨dHd xs, Stm.zero, Prt.zero, 0, Ste.zero, 0⟩ := by
  unfold dMsg dTime; rw [if_neg hn, if_neg h9, if_neg h11, if_neg h11, if_neg h11]
end Go.Proofs.Ythjldfmlclpdbaa

set_option maxRecDepth 100000
set_option linter.unusedSimpArgs false
set_option linter.unusedVariables false
namespace Go.Proofs.Ythjldfmlclpdbaa
open Go.Rx


theorem specOK_mono {k : FuncId} {s s' : Rx.Spec} (h : SpecOK P k s) (hs : ∀ args bs r, (s' args bs).den = some r → (s args bs).denN = some r.nrm) : SpecOK P k s' := ⟨h.correct.mono hs, h.good⟩
theorem specOK_any {k : FuncId} {s0 s : Rx.Spec} (h0 : SpecOK P k s0) (h : ∀ args bs r, (s args bs).den = some r → ∃ s', SpecOK P k s' ∧ (s' args bs).denN = some r.nrm) : SpecOK P k s := by
  refine ⟨?_, h0.good⟩
  intro args bs r hr
  obtain ⟨s', h1, h2⟩ := h args bs r hr
  unfold Tree.denN at h2
  obtain ⟨r0, h3, h4⟩ := Option.map_eq_some_iff.1 h2
  intro ρ xs w hx hbs
  refine (h1.correct args bs r0 h3 ρ xs w hx hbs).mono ?_
  rintro e w' ⟨v, ρ', rfl, hp⟩
  refine ⟨v, ρ', rfl, PostR.nrm.1 ?_⟩
  rw [← h4]
  exact PostR.nrm.2 hp
def hdTS (T : Int) : Rx.Spec := fun a b => match a, b with
  | [.sl 0 0 0 1 l cap], [.ints .u8 xs] => .need (allByte xs && decide (l = xs.length) && decide (l ≤ 9223372036854775806) && decide (decErr xs = 0) && decide (dTy xs = T))
    (.leaf ⟨.tup [.agg [.int .i64 T, .int .i64 (xs.getD 4 0), .int .i64 (dFl xs), .int .i64 (dCo xs), .int .u8 (xs.getD 20 0), .int .u8 (xs.getD 21 0), .int .u8 (xs.getD 22 0), .int .u8 (xs.getD 23 0),
  .int .u8 (xs.getD 24 0), .int .u8 (xs.getD 25 0), .int .u8 (xs.getD 26 0), .int .u8 (xs.getD 27 0), .int .i64 (dNum xs), .int .i64 (dSe xs), .int .i64 (dLo xs)], .int .i64 0], [none], []⟩)
  | _, _ => .fail
theorem hdT_ok (T : Int) : SpecOK P 41 (hdTS T) := by
  refine specOK_mono refDecode_ok ?_
  intro args bs r h
  unfold hdTS at h
  split at h
  · rename_i l cap xs
    rw [den_need, den_leaf] at h
    obtain ⟨hs, rfl⟩ := h
    simp only [Bool.and_eq_true, decide_eq_true_eq] at hs
    obtain ⟨⟨⟨⟨h1, rfl⟩, h3⟩, h4⟩, rfl⟩ := hs
    unfold decS
    simp only [Tree.need, denN_ite, decT]
    rw [if_pos (by simp [h1]; omega), if_pos (by simp [h4])]
    rfl
  · simp [den_fail] at h
def getOkS (ok : Bool) : Rx.Spec := fun a b => match a, b with
  | [.sl 0 i 0 1 10 cap], [.ints .u8 xs] => .need (allByte xs && decide (i + 10 ≤ xs.length) && (decide (sumF 0 (bytesAt xs (i + 6) 4) ≤ 999999999) == ok))
      (match ok with
        | true => .leaf ⟨.tup [(⟨sumF 0 (bytesAt xs i 6), sumF 0 (bytesAt xs (i + 6) 4)⟩ : Stm).v, .int .i64 0], [none], []⟩
        | false => .leaf ⟨.tup [Stm.zero.v, .int .i64 20], [none], []⟩)
  | _, _ => .fail
theorem getOk_ok (ok : Bool) : SpecOK P 42 (getOkS ok) := by
  refine specOK_mono refGetSt_ok ?_
  intro args bs r h
  unfold getOkS at h
  split at h
  · rename_i i cap xs
    rw [den_need] at h
    obtain ⟨hs, h⟩ := h
    simp only [Bool.and_eq_true, beq_iff_eq] at hs
    obtain ⟨⟨h1, h2⟩, h3⟩ := hs
    unfold getStS
    simp only [Tree.need, denN_ite]
    rw [if_pos (by simp only [h1, h2, Bool.and_self]), h3]
    cases ok
    · rw [den_leaf] at h; subst h; rfl
    · rw [den_leaf] at h; subst h; rfl
  · simp [den_fail] at h
theorem hd_ty {h : Rx.Hd} {T : Int} (e : h.ty = T) : (⟨T, h.dom, h.fl, h.co, h.src, h.se, h.lo⟩ : Rx.Hd) = h := by subst e; rfl
noncomputable abbrev i44S : Rx.Spec := fFn P (specsOf []) (loopsOf []) Try.f44
theorem i44_ok : SpecOK P 44 i44S := inl_ok (GammaOK.nil P) hm Try.func44 (by kernel_rfl) (LoopsOK.nil (by kernel_rfl))
noncomputable abbrev rdG (T : Int) (ok : Bool) : List (Nat × Rx.Spec) := [(41, hdTS T), (42, getOkS ok), (43, getS), (44, i44S), (12, encMS)]
theorem rdG_ok (T : Int) (ok : Bool) : GammaOK P (rdG T ok) := .cons (hdT_ok T) (.cons (getOk_ok ok) (.cons refGet_ok (.cons i44_ok (.cons refEncM_ok (.nil P)))))
noncomputable abbrev rdL (T : Int) (ok : Bool) : Nat → Option LSpec := loopsOf [(firstRegion (loopAt Try.f17 0), fUnroll P (specsOf (rdG T ok)) (loopsOf []) Try.f17 (loopAt Try.f17 0) 9)]
theorem rdL_ok (T : Int) (ok : Bool) : LoopsOK P (rdL T ok) (bodyOf Try.f17) := LoopsOK.one (by kernel_rfl) (fUnroll_ok (rdG_ok T ok) hm (LoopsOK.nil (by kernel_rfl)) _ _)
def refTS (T : Int) (ok : Bool) : Rx.Spec := fun a b => match a, b with
  | [.sl 0 0 0 1 l cap], [.ints .u8 xs] => .need (allByte xs && decide (l = xs.length) && decide (l ≤ 9223372036854775806) && decide (decErr xs = 0) && decide (dTy xs = T) && (decide (dNs xs ≤ 999999999) == ok))
    (.ite (mErr xs == 0) (.leaf ⟨.tup [(dMsg xs).v, .int .i64 0], [none], []⟩) (.leaf ⟨.tup [Msg.zero.v, .int .i64 (mErr xs)], [none], []⟩))
  | _, _ => .fail
end Go.Proofs.Ythjldfmlclpdbaa

set_option maxRecDepth 100000
set_option linter.unusedSimpArgs false
set_option linter.unusedVariables false
namespace Go.Proofs.Ythjldfmlclpdbaa
open Go.Rx

def isNils : List V → Bool
  | [.nils] => true
  | _ => false
def orN (s t : Rx.Spec) : Rx.Spec := fun a b => match isNils a with
  | true => t a b
  | false => s a b
theorem orN_ok {k : FuncId} {s t : Rx.Spec} (hs : SpecOK P k s) (ht : SpecOK P k t) : SpecOK P k (orN s t) := by
  refine ⟨?_, hs.good⟩
  intro args bs r h
  unfold orN at h
  split at h
  · exact ht.correct args bs r h
  · exact hs.correct args bs r h
noncomputable abbrev n35S : Rx.Spec := fFn P (specsOf []) (loopsOf []) Try.f35
theorem n35_ok : SpecOK P 35 n35S := inl_ok (GammaOK.nil P) hm Try.func35 (by kernel_rfl) (LoopsOK.nil (by kernel_rfl))
theorem n16_G : GammaOK P [(35, n35S)] := .cons n35_ok (.nil P)
noncomputable abbrev n16S : Rx.Spec := fFn P (specsOf [(35, n35S)]) (loopsOf []) Try.f16
theorem n16_ok : SpecOK P 16 n16S := inl_ok n16_G hm Try.func16 (by kernel_rfl) (LoopsOK.nil (by kernel_rfl))
noncomputable abbrev i11S : Rx.Spec := fFn P (specsOf []) (loopsOf []) Try.f11
theorem i11_ok : SpecOK P 11 i11S := inl_ok (GammaOK.nil P) hm Try.func11 (by kernel_rfl) (LoopsOK.nil (by kernel_rfl))
noncomputable abbrev i18S : Rx.Spec := fFn P (specsOf []) (loopsOf []) Try.f18
theorem i18_ok : SpecOK P 18 i18S := inl_ok (GammaOK.nil P) hm Try.func18 (by kernel_rfl) (LoopsOK.nil (by kernel_rfl))
def trueS : Rx.Spec := fun a b => match a, b with
  | [], [] => .leaf ⟨.bool true, [], []⟩
  | _, _ => .fail
noncomputable abbrev alG : List (Nat × Rx.Spec) := [(10, encMS), (16, orN decMS n16S)]
theorem alG_ok : GammaOK P alG := .cons encM_ok (.cons (orN_ok decM_ok n16_ok) (.nil P))
theorem alive_ok : SpecOK P 13 trueS := by
  refine specOK_fast alG_ok hm (Λ := loopsOf []) Try.func13 (by kernel_rfl) (LoopsOK.nil (by kernel_rfl)) ?_
  intro args bs r h
  unfold trueS at h
  split at h
  · rw [den_leaf] at h; subst h
    kernel_rfl
  · simp [den_fail] at h
end Go.Proofs.Ythjldfmlclpdbaa
