/- Layer 15: texts, by the program and by the document. The conditions stand in the specifications. -/
import Derived.Test.YtioplplpiaalhaaDoorCvA
import Derived.Test.YtioplplpiaalhaaDoorRxB
set_option linter.unusedSimpArgs false
set_option linter.unusedVariables false
set_option linter.unnecessarySimpa false
set_option linter.unusedSectionVars false
set_option maxRecDepth 100000
set_option linter.unusedSimpArgs false
set_option linter.unusedVariables false
namespace Go.Proofs.YtioplplpiaalhaaDoor
open Go.Rx

def dig2 (n : Int) : List Int := [48 + n / 10, 48 + n % 10]
def dig4 (n : Int) : List Int := [48 + n / 1000, 48 + n / 100 % 10, 48 + n / 10 % 10, 48 + n % 10]
def txt (l : Lab) : List Int := dig4 l.y ++ (45 :: dig2 l.mo) ++ (45 :: dig2 l.d) ++ (84 :: dig2 l.h) ++ (58 :: dig2 l.mi) ++ (58 :: dig2 l.s)
def textZ (l : Lab) : List Int := if rightZ l = true then txt l else []
theorem txt_len (l : Lab) : (txt l).length = 19 := rfl

theorem dec_u8 (u : Nat) (h : u < 10) : ((UInt8.ofNat (48 + u)).toNat : Int) = 48 + u := by
  have : (UInt8.ofNat (48 + u)).toNat = (48 + u) % 256 := rfl
  omega
theorem nums_list (l : List UInt8) : numsOf ⟨l.toArray⟩ = l.map fun b => (b.toNat : Int) := by simp [numsOf]
theorem dd1 (u : Nat) (h : u < 10) : (Lib.decDigits u).map (fun b => (b.toNat : Int)) = [48 + (u : Int)] := by
  rw [Lib.decDigits, dif_pos h]; simp only [List.map_cons, List.map_nil, dec_u8 u h]
theorem ddS (u : Nat) (h : ¬ u < 10) : (Lib.decDigits u).map (fun b => (b.toNat : Int)) = (Lib.decDigits (u / 10)).map (fun b => (b.toNat : Int)) ++ [48 + ((u % 10 : Nat) : Int)] := by
  rw [Lib.decDigits, dif_neg h]; simp only [List.map_append, List.map_cons, List.map_nil, dec_u8 (u % 10) (Nat.mod_lt _ (by decide))]
theorem ito1 {n : Int} (h0 : 0 ≤ n) (h1 : n ≤ 9) : numsOf (itoaS n) = [48 + n] := by
  unfold itoaS Lib.itoa
  rw [if_neg (by omega), nums_list, dd1 _ (by omega), Int.toNat_of_nonneg h0]
theorem ito2 {n : Int} (h0 : 10 ≤ n) (h1 : n ≤ 99) : numsOf (itoaS n) = dig2 n := by
  unfold itoaS Lib.itoa
  rw [if_neg (by omega), nums_list, ddS _ (by omega), dd1 _ (by omega)]
  simp only [dig2, List.cons_append, List.nil_append, List.cons.injEq, and_true]
  omega
theorem ito4 {n : Int} (h0 : 1000 ≤ n) (h1 : n ≤ 9999) : numsOf (itoaS n) = dig4 n := by
  unfold itoaS Lib.itoa
  rw [if_neg (by omega), nums_list, ddS _ (by omega), ddS _ (by omega), ddS _ (by omega), dd1 _ (by omega)]
  simp only [dig4, List.cons_append, List.nil_append, List.append_assoc, List.cons.injEq, and_true]
  omega
theorem nums_size (s : ByteArray) : (numsOf s).length = s.size := by simp [numsOf]

/-- A number laid so that it ends at a place. -/
def putAt (xs : List Int) (to : Nat) (s : List Int) : List Int := xs.take (to - s.length) ++ s ++ xs.drop to
def tlF (vals : List V) (bs : List Blk) : Tree LRes := match vals, bs with
  | [.sl 0 0 0 1 19 (some 19), .agg [.int .i64 y, .int .i64 mo, .int .i64 d, .int .i64 h, .int .i64 mi, .int .i64 s], .int .i64 i], [.ints .u8 xs] =>
    .need (rightZ ⟨y, mo, d, h, mi, s⟩ && decide (i = 0) && decide (xs = [48, 48, 48, 48, 45, 48, 48, 45, 48, 48, 84, 48, 48, 58, 48, 48, 58, 48, 48])) (.leaf ⟨.exit 0, [], [some (some (.ints .u8 (txt ⟨y, mo, d, h, mi, s⟩)))], []⟩)
  | _, _ => .fail
def tlL : LSpec := ⟨35, [3, 14, 15], [], tlF⟩
abbrev tlG : List (Nat × Rx.Spec) := [(35, itoS)]
theorem tlG_ok : GammaOK P tlG := .cons ito_ok (.nil P)
theorem tl_round (l : Lab) (i : Int) (xs : List Int) : (evRound P (specsOf tlG) (loopsOf []) 35 [3, 14, 15] [] (loopAt Tryd.f28 0) [.sl 0 0 0 1 19 (some 19), l.v, .int .i64 i] [.ints .u8 xs]).den = Tree.den (Tree.ite (decide (i < 6)) (Tree.ite (decide (0 ≤ i) && decide (i < 6)) (Tree.ite (decide (-9223372036854775808 ≤ [l.1, l.2, l.3, l.4, l.5, l.6].getD i.toNat 0) && decide ([l.1, l.2, l.3, l.4, l.5, l.6].getD i.toNat 0 ≤ 9223372036854775807)) (Tree.ite (decide (0 ≤ IntKind.i64.wrap (IntKind.i64.wrap (4 + IntKind.i64.wrap (3 * i)) - (↑(itoaS ([l.1, l.2, l.3, l.4, l.5, l.6].getD i.toNat 0)).size : Int))) && decide (IntKind.i64.wrap (IntKind.i64.wrap (4 + IntKind.i64.wrap (3 * i)) - (↑(itoaS ([l.1, l.2, l.3, l.4, l.5, l.6].getD i.toNat 0)).size : Int)) ≤ 19) && true) (Tree.ite (decide (0 + (IntKind.i64.wrap (IntKind.i64.wrap (4 + IntKind.i64.wrap (3 * i)) - (↑(itoaS ([l.1, l.2, l.3, l.4, l.5, l.6].getD i.toNat 0)).size : Int))).toNat + (19 - (IntKind.i64.wrap (IntKind.i64.wrap (4 + IntKind.i64.wrap (3 * i)) - (↑(itoaS ([l.1, l.2, l.3, l.4, l.5, l.6].getD i.toNat 0)).size : Int))).toNat) ≤ xs.length)) (Tree.leaf { e := Ex.nrm, vs := [V.sl 0 0 0 1 19 (some 19), V.agg [V.int IntKind.i64 l.1, V.int IntKind.i64 l.2, V.int IntKind.i64 l.3, V.int IntKind.i64 l.4, V.int IntKind.i64 l.5, V.int IntKind.i64 l.6], V.int IntKind.i64 (IntKind.i64.wrap (i + 1))], upd := [some (some (Body.ints IntKind.u8 (List.take (0 + (IntKind.i64.wrap (IntKind.i64.wrap (4 + IntKind.i64.wrap (3 * i)) - (↑(itoaS ([l.1, l.2, l.3, l.4, l.5, l.6].getD i.toNat 0)).size : Int))).toNat) xs ++ List.take (min (itoaS ([l.1, l.2, l.3, l.4, l.5, l.6].getD i.toNat 0)).size (19 - (IntKind.i64.wrap (IntKind.i64.wrap (4 + IntKind.i64.wrap (3 * i)) - (↑(itoaS ([l.1, l.2, l.3, l.4, l.5, l.6].getD i.toNat 0)).size : Int))).toNat)) (numsOf (itoaS ([l.1, l.2, l.3, l.4, l.5, l.6].getD i.toNat 0))) ++ List.drop (0 + (IntKind.i64.wrap (IntKind.i64.wrap (4 + IntKind.i64.wrap (3 * i)) - (↑(itoaS ([l.1, l.2, l.3, l.4, l.5, l.6].getD i.toNat 0)).size : Int))).toNat + min (itoaS ([l.1, l.2, l.3, l.4, l.5, l.6].getD i.toNat 0)).size (19 - (IntKind.i64.wrap (IntKind.i64.wrap (4 + IntKind.i64.wrap (3 * i)) - (↑(itoaS ([l.1, l.2, l.3, l.4, l.5, l.6].getD i.toNat 0)).size : Int))).toNat)) xs)))], new := [] }) Tree.fail) Tree.fail) Tree.fail) Tree.fail) (Tree.leaf { e := Ex.exit 0, vs := [], upd := [none], new := [] })) := by
  kernel_rfl
theorem tl_step (l : Lab) (i : Nat) (xs s : List Int) (n : Int) (hi : i < 6) (hx : xs.length = 19) (hn : ([l.y, l.mo, l.d, l.h, l.mi, l.s].getD i 0) = n) (h0 : 0 ≤ n) (h1 : n ≤ 9999) (hs : numsOf (itoaS n) = s) (hl : s.length ≤ 4) :
    (evRound P (specsOf tlG) (loopsOf []) 35 [3, 14, 15] [] (loopAt Tryd.f28 0) [.sl 0 0 0 1 19 (some 19), l.v, .int .i64 (i : Int)] [.ints .u8 xs]).den =
      some ⟨.nrm, [.sl 0 0 0 1 19 (some 19), l.v, .int .i64 ((i + 1 : Nat) : Int)], [some (some (.ints .u8 (putAt xs (4 + 3 * i) s)))], []⟩ := by
  have hsz : (itoaS n).size = s.length := by rw [← nums_size, hs]
  have w1 : IntKind.i64.wrap (3 * (i : Int)) = 3 * (i : Int) := wrap64_id (by omega) (by omega)
  have w2 : IntKind.i64.wrap (4 + 3 * (i : Int)) = 4 + 3 * (i : Int) := wrap64_id (by omega) (by omega)
  have w3 : IntKind.i64.wrap (4 + 3 * (i : Int) - (s.length : Int)) = 4 + 3 * (i : Int) - (s.length : Int) := wrap64_id (by omega) (by omega)
  have w4 : IntKind.i64.wrap ((i : Int) + 1) = ((i + 1 : Nat) : Int) := by rw [wrap64_id (by omega) (by omega)]; omega
  have t1 : (4 + 3 * (i : Int) - (s.length : Int)).toNat = 4 + 3 * i - s.length := by omega
  rw [tl_round, Int.toNat_natCast, hn, hsz, w1, w2, w3, w4, t1, hs, show decide ((i : Int) < 6) = true by simp; omega, show decide (0 ≤ (i : Int)) = true by simp, show decide (-9223372036854775808 ≤ n) = true by simp; omega, show decide (n ≤ 9223372036854775807) = true by simp; omega,
    show decide (0 ≤ 4 + 3 * (i : Int) - (s.length : Int)) = true by simp; omega, show decide (4 + 3 * (i : Int) - (s.length : Int) ≤ 19) = true by simp; omega, show decide (0 + (4 + 3 * i - s.length) + (19 - (4 + 3 * i - s.length)) ≤ xs.length) = true by simp; omega,
    show min s.length (19 - (4 + 3 * i - s.length)) = s.length by omega, show 0 + (4 + 3 * i - s.length) + s.length = 4 + 3 * i by omega, Nat.zero_add, List.take_length]
  rfl
def pad2 (n : Int) : List Int := if n ≤ 9 then [48 + n] else dig2 n
theorem ito_pad {n : Int} (h0 : 0 ≤ n) (h1 : n ≤ 99) : numsOf (itoaS n) = pad2 n := by
  unfold pad2; split
  · exact ito1 h0 (by assumption)
  · exact ito2 (by omega) h1
theorem pad2_len (n : Int) : (pad2 n).length ≤ 4 := by unfold pad2; split <;> simp [dig2]
theorem put_y {y : Int} : putAt [48, 48, 48, 48, 45, 48, 48, 45, 48, 48, 84, 48, 48, 58, 48, 48, 58, 48, 48] 4 (dig4 y) = txt ⟨y, 0, 0, 0, 0, 0⟩ := rfl
theorem put_mo {y n : Int} (h0 : 0 ≤ n) (h1 : n ≤ 99) : putAt (txt ⟨y, 0, 0, 0, 0, 0⟩) 7 (pad2 n) = txt ⟨y, n, 0, 0, 0, 0⟩ := by
  unfold pad2; split
  · have e : dig2 n = [48, 48 + n] := by simp only [dig2, List.cons.injEq, and_true]; omega
    simp only [txt, e]; rfl
  · rfl
theorem put_d {y mo n : Int} (h0 : 0 ≤ n) (h1 : n ≤ 99) : putAt (txt ⟨y, mo, 0, 0, 0, 0⟩) 10 (pad2 n) = txt ⟨y, mo, n, 0, 0, 0⟩ := by
  unfold pad2; split
  · have e : dig2 n = [48, 48 + n] := by simp only [dig2, List.cons.injEq, and_true]; omega
    simp only [txt, e]; rfl
  · rfl
theorem put_h {y mo d n : Int} (h0 : 0 ≤ n) (h1 : n ≤ 99) : putAt (txt ⟨y, mo, d, 0, 0, 0⟩) 13 (pad2 n) = txt ⟨y, mo, d, n, 0, 0⟩ := by
  unfold pad2; split
  · have e : dig2 n = [48, 48 + n] := by simp only [dig2, List.cons.injEq, and_true]; omega
    simp only [txt, e]; rfl
  · rfl
theorem put_mi {y mo d h n : Int} (h0 : 0 ≤ n) (h1 : n ≤ 99) : putAt (txt ⟨y, mo, d, h, 0, 0⟩) 16 (pad2 n) = txt ⟨y, mo, d, h, n, 0⟩ := by
  unfold pad2; split
  · have e : dig2 n = [48, 48 + n] := by simp only [dig2, List.cons.injEq, and_true]; omega
    simp only [txt, e]; rfl
  · rfl
theorem put_s {y mo d h mi n : Int} (h0 : 0 ≤ n) (h1 : n ≤ 99) : putAt (txt ⟨y, mo, d, h, mi, 0⟩) 19 (pad2 n) = txt ⟨y, mo, d, h, mi, n⟩ := by
  unfold pad2; split
  · have e : dig2 n = [48, 48 + n] := by simp only [dig2, List.cons.injEq, and_true]; omega
    simp only [txt, e]; rfl
  · rfl
theorem tl_end (l : Lab) (xs : List Int) : (evRound P (specsOf tlG) (loopsOf []) 35 [3, 14, 15] [] (loopAt Tryd.f28 0) [.sl 0 0 0 1 19 (some 19), l.v, .int .i64 6] [.ints .u8 xs]).den = some ⟨.exit 0, [], [none], []⟩ := by
  rw [tl_round]; rfl
theorem tl_all (l : Lab) (hr : rightZ l = true) :
    (loopN P (specsOf tlG) (loopsOf []) 35 [3, 14, 15] [] (loopAt Tryd.f28 0) 7 [.sl 0 0 0 1 19 (some 19), l.v, .int .i64 0] [.ints .u8 [48, 48, 48, 48, 45, 48, 48, 45, 48, 48, 84, 48, 48, 58, 48, 48, 58, 48, 48]]).den = some ⟨.exit 0, [], [some (some (.ints .u8 (txt l)))], []⟩ := by
  obtain ⟨g1, g2, g3, g4, g5, g6, g7, _⟩ := right_mem hr
  obtain ⟨d1, d2, d3, d4, d5, d6, d7, d8⟩ := day_mem g1
  have hlg := longZ_bd l.y l.mo
  have s0 := tl_step l 0 [48, 48, 48, 48, 45, 48, 48, 45, 48, 48, 84, 48, 48, 58, 48, 48, 58, 48, 48] (dig4 l.y) l.y (by decide) rfl rfl (by omega) (by omega) (ito4 (by omega) (by omega)) (Nat.le_refl 4)
  rw [show 4 + 3 * 0 = 4 from rfl, put_y] at s0
  have s1 := tl_step l 1 (txt ⟨l.y, 0, 0, 0, 0, 0⟩) (pad2 l.mo) l.mo (by decide) rfl rfl (by omega) (by omega) (ito_pad (by omega) (by omega)) (pad2_len _)
  rw [show 4 + 3 * 1 = 7 from rfl, put_mo (by omega) (by omega)] at s1
  have s2 := tl_step l 2 (txt ⟨l.y, l.mo, 0, 0, 0, 0⟩) (pad2 l.d) l.d (by decide) rfl rfl (by omega) (by omega) (ito_pad (by omega) (by omega)) (pad2_len _)
  rw [show 4 + 3 * 2 = 10 from rfl, put_d (by omega) (by omega)] at s2
  have s3 := tl_step l 3 (txt ⟨l.y, l.mo, l.d, 0, 0, 0⟩) (pad2 l.h) l.h (by decide) rfl rfl (by omega) (by omega) (ito_pad (by omega) (by omega)) (pad2_len _)
  rw [show 4 + 3 * 3 = 13 from rfl, put_h (by omega) (by omega)] at s3
  have s4 := tl_step l 4 (txt ⟨l.y, l.mo, l.d, l.h, 0, 0⟩) (pad2 l.mi) l.mi (by decide) rfl rfl (by omega) (by omega) (ito_pad (by omega) (by omega)) (pad2_len _)
  rw [show 4 + 3 * 4 = 16 from rfl, put_mi (by omega) (by omega)] at s4
  have s5 := tl_step l 5 (txt ⟨l.y, l.mo, l.d, l.h, l.mi, 0⟩) (pad2 l.s) l.s (by decide) rfl rfl (by omega) (by omega) (ito_pad (by omega) (by omega)) (pad2_len _)
  rw [show 4 + 3 * 5 = 19 from rfl, put_s (by omega) (by omega)] at s5
  have e6 := loopN_end (n := 0) (tl_end l (txt ⟨l.y, l.mo, l.d, l.h, l.mi, l.s⟩)) (by simp)
  have e5 := loopN_step s5 rfl (vals' := [.sl 0 0 0 1 19 (some 19), l.v, .int .i64 6]) (bs' := [.ints .u8 (txt ⟨l.y, l.mo, l.d, l.h, l.mi, l.s⟩)]) (r := ⟨.exit 0, [], [some (some (.ints .u8 (txt l)))], []⟩) (by kernel_rfl) (by kernel_rfl) (by kernel_rfl) e6 (by kernel_rfl)
  have e4 := loopN_step s4 rfl (vals' := [.sl 0 0 0 1 19 (some 19), l.v, .int .i64 5]) (bs' := [.ints .u8 (txt ⟨l.y, l.mo, l.d, l.h, l.mi, 0⟩)]) (r := ⟨.exit 0, [], [some (some (.ints .u8 (txt l)))], []⟩) (by kernel_rfl) (by kernel_rfl) (by kernel_rfl) e5 (by kernel_rfl)
  have e3 := loopN_step s3 rfl (vals' := [.sl 0 0 0 1 19 (some 19), l.v, .int .i64 4]) (bs' := [.ints .u8 (txt ⟨l.y, l.mo, l.d, l.h, 0, 0⟩)]) (r := ⟨.exit 0, [], [some (some (.ints .u8 (txt l)))], []⟩) (by kernel_rfl) (by kernel_rfl) (by kernel_rfl) e4 (by kernel_rfl)
  have e2 := loopN_step s2 rfl (vals' := [.sl 0 0 0 1 19 (some 19), l.v, .int .i64 3]) (bs' := [.ints .u8 (txt ⟨l.y, l.mo, l.d, 0, 0, 0⟩)]) (r := ⟨.exit 0, [], [some (some (.ints .u8 (txt l)))], []⟩) (by kernel_rfl) (by kernel_rfl) (by kernel_rfl) e3 (by kernel_rfl)
  have e1 := loopN_step s1 rfl (vals' := [.sl 0 0 0 1 19 (some 19), l.v, .int .i64 2]) (bs' := [.ints .u8 (txt ⟨l.y, l.mo, 0, 0, 0, 0⟩)]) (r := ⟨.exit 0, [], [some (some (.ints .u8 (txt l)))], []⟩) (by kernel_rfl) (by kernel_rfl) (by kernel_rfl) e2 (by kernel_rfl)
  exact loopN_step s0 rfl (vals' := [.sl 0 0 0 1 19 (some 19), l.v, .int .i64 1]) (bs' := [.ints .u8 (txt ⟨l.y, 0, 0, 0, 0, 0⟩)]) (r := ⟨.exit 0, [], [some (some (.ints .u8 (txt l)))], []⟩) (by kernel_rfl) (by kernel_rfl) (by kernel_rfl) e1 (by kernel_rfl)
theorem tl_loop : LoopOK P (loopAt Tryd.f28 0) tlL := by
  refine loop_ok tlG_ok Go.Proofs.YtioplplpiaalhaaDoor.hm (Λ := loopsOf []) (LoopsOK.nil (by kernel_rfl)) _ ?_
  intro vals bs r h
  simp only [tlL, tlF] at h
  split at h
  · rename_i y mo d h' mi s i xs
    rw [den_need, den_leaf] at h
    simp only [Bool.and_eq_true, decide_eq_true_eq] at h
    obtain ⟨⟨⟨h1, rfl⟩, rfl⟩, rfl⟩ := h
    exact ⟨7, tl_all ⟨y, mo, d, h', mi, s⟩ h1⟩
  · simp [den_fail] at h
def textS : Rx.Spec := fun a b => match a, b with
  | [v], [] => match Lab.of v with
    | some l => .leaf ⟨.str (bytesOf (textZ l)), [], []⟩
    | none => .fail
  | _, _ => .fail
noncomputable abbrev teG : List (Nat × Rx.Spec) := [(24, rightS), (34, fFn P (specsOf []) (loopsOf []) Tryd.f34)]
theorem teG_ok : GammaOK P teG := .cons right_ok (.cons parts_ok (.nil P))
theorem text_ok : SpecOK P 28 textS := by
  refine specOK_fast teG_ok hm (Λ := loopsOf [(5, tlL)]) Tryd.func28 (by kernel_rfl) (LoopsOK.one (by kernel_rfl) tl_loop) ?_
  intro args bs r h
  unfold textS at h
  split at h
  · split at h
    · rename_i u _ l hl
      rw [Lab.of_eq hl]
      rw [denLf] at h; cases h
      rw [show (fFn P (specsOf teG) (loopsOf [(5, tlL)]) Tryd.f28 [l.v] []).denN = Tree.denN (Tree.ite (!rightZ l) (Tree.leaf { v := V.str { data := #[] }, upd := [], new := [] }) (Tree.ite (rightZ l && true && true) (Tree.leaf { v := V.str (bytesOf (List.take 19 (List.drop 0 (txt l)))), upd := [], new := [] }) Tree.fail)) from by kernel_rfl]
      simp only [denN_ite, denN_leaf, denN_fail]
      unfold textZ
      cases rightZ l <;> rfl
    · simp [den_fail] at h
  · simp [den_fail] at h
end Go.Proofs.YtioplplpiaalhaaDoor

set_option maxRecDepth 100000
set_option linter.unusedSimpArgs false
set_option linter.unusedVariables false
namespace Go.Proofs.YtioplplpiaalhaaDoor
open Go.Rx

def numF (a : Int) (ys : List Int) : Int := ys.foldl (fun a c => 10 * a + c - 48) a
def setI (i : Nat) (v : Int) (x : Lab) : Lab := ⟨if i = 0 then v else x.y, if i = 1 then v else x.mo, if i = 2 then v else x.d, if i = 3 then v else x.h, if i = 4 then v else x.mi, if i = 5 then v else x.s⟩
def getI (i : Nat) (x : Lab) : Int := [x.y, x.mo, x.d, x.h, x.mi, x.s].getD i 0
theorem get_set {i : Nat} (h : i < 6) (v : Int) (x : Lab) : getI i (setI i v x) = v := by
  unfold getI setI
  rcases i with _ | _ | _ | _ | _ | _ | i <;> first | rfl | omega
theorem set_set (i : Nat) (v u : Int) (x : Lab) : setI i u (setI i v x) = setI i u x := by
  unfold setI
  simp only [Lab.mk.injEq]
  refine ⟨?_, ?_, ?_, ?_, ?_, ?_⟩ <;> split <;> rfl
theorem set_get {i : Nat} (h : i < 6) (x : Lab) : setI i (getI i x) x = x := by
  unfold getI setI
  rcases i with _ | _ | _ | _ | _ | _ | i <;> first | rfl | omega

def riF (vals : List V) (bs : List Blk) : Tree LRes := match vals, bs with
  | [.str s, .ptr 0 0 0 0, .ptr 1 0 0 0, .int .i64 i, .int .i64 i2, .sl 2 0 0 1 len none, .int .i64 n, .int .i64 j], [.cells [.int .i64 a, .int .i64 b, .int .i64 c, .int .i64 d, .int .i64 e, .int .i64 f], .cells [.int .i64 x0, .int .i64 x1, .int .i64 x2, .int .i64 x3, .int .i64 x4, .int .i64 x5], .ints .u8 ys] =>
    .need (decide (0 ≤ i) && decide (i < 6) && decide (j = 0) && decide (n = (len : Int)) && decide (len = ys.length) && decide (1 ≤ ys.length ∧ ys.length ≤ 4) && allByte ys && decide (getI i.toNat ⟨x0, x1, x2, x3, x4, x5⟩ = 0))
      (.leaf ⟨.exit 2, [], [none, some (some (.cells (setI i.toNat (numF 0 ys) ⟨x0, x1, x2, x3, x4, x5⟩).vs)), none], []⟩)
  | _, _ => .fail
def riL : LSpec := ⟨65, [0, 2, 4, 5, 14, 28, 29, 30], [], riF⟩
theorem ri_round (s : ByteArray) (L x : Lab) (i i2 n j : Int) (len : Nat) (ys : List Int) : (evRound P (specsOf []) (loopsOf []) 65 [0, 2, 4, 5, 14, 28, 29, 30] [] (loopAt Tryd.f29 1) [.str s, .ptr 0 0 0 0, .ptr 1 0 0 0, .int .i64 i, .int .i64 i2, .sl 2 0 0 1 len none, .int .i64 n, .int .i64 j] [.cells L.vs, .cells x.vs, .ints .u8 ys]).den = Tree.den (Tree.ite (decide (j < n)) (Tree.ite (decide (0 ≤ j) && decide (j < (↑len : Int))) (Tree.ite (decide (0 + j.toNat + 1 ≤ ys.length)) (Tree.ite (decide (0 ≤ i) && decide (i < 6)) (Tree.ite (decide (i.toNat * 1 + 0 + 1 ≤ 6)) (Tree.ite (decide (0 ≤ i) && decide (i < 6)) (Tree.ite (decide (i.toNat * 1 + 0 < 6)) (Tree.leaf { e := Ex.nrm, vs := [V.str s, V.ptr 0 0 0 0, V.ptr 1 0 0 0, V.int IntKind.i64 i, V.int IntKind.i64 i2, V.sl 2 0 0 1 len none, V.int IntKind.i64 n, V.int IntKind.i64 (IntKind.i64.wrap (j + 1))], upd := [none, some (some (Body.cells [V.int IntKind.i64 (if i.toNat * 1 + 0 = 0 then IntKind.i64.wrap (IntKind.i64.wrap (IntKind.i64.wrap (10 * [x.1, x.2, x.3, x.4, x.5, x.6].getD i.toNat 0) + IntKind.i64.wrap (ys.getD (0 + j.toNat + 0) 0)) - 48) else x.1), V.int IntKind.i64 (if i.toNat * 1 + 0 = 1 then IntKind.i64.wrap (IntKind.i64.wrap (IntKind.i64.wrap (10 * [x.1, x.2, x.3, x.4, x.5, x.6].getD i.toNat 0) + IntKind.i64.wrap (ys.getD (0 + j.toNat + 0) 0)) - 48) else x.2), V.int IntKind.i64 (if i.toNat * 1 + 0 = 2 then IntKind.i64.wrap (IntKind.i64.wrap (IntKind.i64.wrap (10 * [x.1, x.2, x.3, x.4, x.5, x.6].getD i.toNat 0) + IntKind.i64.wrap (ys.getD (0 + j.toNat + 0) 0)) - 48) else x.3), V.int IntKind.i64 (if i.toNat * 1 + 0 = 3 then IntKind.i64.wrap (IntKind.i64.wrap (IntKind.i64.wrap (10 * [x.1, x.2, x.3, x.4, x.5, x.6].getD i.toNat 0) + IntKind.i64.wrap (ys.getD (0 + j.toNat + 0) 0)) - 48) else x.4), V.int IntKind.i64 (if i.toNat * 1 + 0 = 4 then IntKind.i64.wrap (IntKind.i64.wrap (IntKind.i64.wrap (10 * [x.1, x.2, x.3, x.4, x.5, x.6].getD i.toNat 0) + IntKind.i64.wrap (ys.getD (0 + j.toNat + 0) 0)) - 48) else x.5), V.int IntKind.i64 (if i.toNat * 1 + 0 = 5 then IntKind.i64.wrap (IntKind.i64.wrap (IntKind.i64.wrap (10 * [x.1, x.2, x.3, x.4, x.5, x.6].getD i.toNat 0) + IntKind.i64.wrap (ys.getD (0 + j.toNat + 0) 0)) - 48) else x.6)])), none], new := [] }) Tree.fail) Tree.fail) Tree.fail) Tree.fail) Tree.fail) Tree.fail) (Tree.leaf { e := Ex.exit 2, vs := [], upd := [none, none, none], new := [] })) := by
  kernel_rfl
theorem allByte_at {xs : List Int} (h : allByte xs = true) (i : Nat) : 0 ≤ xs.getD i 0 ∧ xs.getD i 0 ≤ 255 := by
  rw [List.getD_eq_getElem?_getD]
  cases hx : xs[i]? with
  | none => simp
  | some v =>
    have := List.all_eq_true.1 h v (List.mem_of_getElem? hx)
    simpa [byteZ] using this
theorem ri_rounds (s : ByteArray) (L : Lab) (i : Nat) (i2 : Int) (hi : i < 6) (ys : List Int) (hb : allByte ys = true) (hl : ys.length ≤ 4) : ∀ (m : Nat) (j : Nat) (x : Lab) (B : Int), j + m = ys.length → 1 ≤ B → -B ≤ getI i x → getI i x ≤ B → B * 1000 ^ m ≤ 1000000000000000 →
    (loopN P (specsOf []) (loopsOf []) 65 [0, 2, 4, 5, 14, 28, 29, 30] [] (loopAt Tryd.f29 1) (m + 1) [.str s, .ptr 0 0 0 0, .ptr 1 0 0 0, .int .i64 (i : Int), .int .i64 i2, .sl 2 0 0 1 ys.length none, .int .i64 (ys.length : Int), .int .i64 (j : Int)] [.cells L.vs, .cells x.vs, .ints .u8 ys]).den =
      some (if m = 0 then ⟨.exit 2, [], [none, none, none], []⟩ else ⟨.exit 2, [], [none, some (some (.cells (setI i (numF (getI i x) (ys.drop j)) x).vs)), none], []⟩) := by
  intro m
  induction m with
  | zero =>
    intro j x B hj _ _ _ _
    rw [if_pos rfl]
    refine loopN_end (r1 := ⟨.exit 2, [], [none, none, none], []⟩) ?_ (by simp)
    rw [ri_round, show decide ((j : Int) < (ys.length : Int)) = false by simp; omega]
    rfl
  | succ m ih =>
    intro j x B hj hB h1 h2 h3
    rw [if_neg (by omega)]
    have hc := allByte_at hb j
    have h4 : B * 1000 ≤ 1000000000000000 := by
      have : B * 1000 ≤ B * 1000 * 1000 ^ m := by
        have h5 : (0 : Int) < 1000 ^ m := Int.pow_pos (by decide)
        have := Int.mul_le_mul_of_nonneg_left (show (1 : Int) ≤ 1000 ^ m from h5) (show 0 ≤ B * 1000 by omega)
        omega
      rw [Int.pow_succ, Int.mul_comm (1000 ^ m) 1000, ← Int.mul_assoc] at h3
      omega
    obtain ⟨v, hv⟩ : ∃ v, v = 10 * getI i x + ys.getD j 0 - 48 := ⟨_, rfl⟩
    have hr : (evRound P (specsOf []) (loopsOf []) 65 [0, 2, 4, 5, 14, 28, 29, 30] [] (loopAt Tryd.f29 1) [.str s, .ptr 0 0 0 0, .ptr 1 0 0 0, .int .i64 (i : Int), .int .i64 i2, .sl 2 0 0 1 ys.length none, .int .i64 (ys.length : Int), .int .i64 (j : Int)] [.cells L.vs, .cells x.vs, .ints .u8 ys]).den =
        some ⟨.nrm, [.str s, .ptr 0 0 0 0, .ptr 1 0 0 0, .int .i64 (i : Int), .int .i64 i2, .sl 2 0 0 1 ys.length none, .int .i64 (ys.length : Int), .int .i64 ((j + 1 : Nat) : Int)], [none, some (some (.cells (setI i v x).vs)), none], []⟩ := by
      have hg : [x.y, x.mo, x.d, x.h, x.mi, x.s].getD i 0 = getI i x := rfl
      have w1 : IntKind.i64.wrap (10 * getI i x) = 10 * getI i x := wrap64_id (by omega) (by omega)
      have w2 : IntKind.i64.wrap (ys.getD j 0) = ys.getD j 0 := wrap64_id (by omega) (by omega)
      have w3 : IntKind.i64.wrap (10 * getI i x + ys.getD j 0) = 10 * getI i x + ys.getD j 0 := wrap64_id (by omega) (by omega)
      have w4 : IntKind.i64.wrap (10 * getI i x + ys.getD j 0 - 48) = v := by rw [hv]; exact wrap64_id (by omega) (by omega)
      have w5 : IntKind.i64.wrap ((j : Int) + 1) = ((j + 1 : Nat) : Int) := by rw [wrap64_id (by omega) (by omega)]; omega
      rw [ri_round]
      simp only [Nat.zero_add, Nat.add_zero, Nat.mul_one, Int.toNat_natCast]
      rw [show decide ((j : Int) < (ys.length : Int)) = true by simp; omega, show decide (0 ≤ (j : Int)) = true by simp, hg, w1, w2, w3, w4, w5,
        show decide (j + 1 ≤ ys.length) = true by simp; omega, show decide (0 ≤ (i : Int)) = true by simp, show decide ((i : Int) < 6) = true by simp; omega, show decide (i + 1 ≤ 6) = true by simp; omega, show decide (i < 6) = true by simp; omega]
      rfl
    have ih' := ih (j + 1) (setI i v x) (B * 1000) (by omega) (by omega) (by rw [get_set hi]; omega) (by rw [get_set hi]; omega) (by rw [Int.mul_assoc, Int.mul_comm 1000, ← Int.pow_succ]; exact h3)
    have hd : ys.drop j = ys.getD j 0 :: ys.drop (j + 1) := drop_getD (by omega)
    have hn : numF (getI i x) (ys.drop j) = numF v (ys.drop (j + 1)) := by rw [hd, hv]; rfl
    refine loopN_step hr rfl (vals' := [.str s, .ptr 0 0 0 0, .ptr 1 0 0 0, .int .i64 (i : Int), .int .i64 i2, .sl 2 0 0 1 ys.length none, .int .i64 (ys.length : Int), .int .i64 ((j + 1 : Nat) : Int)]) (bs' := [.cells L.vs, .cells (setI i v x).vs, .ints .u8 ys]) (by kernel_rfl) (by kernel_rfl) (by kernel_rfl) ih' ?_
    rw [get_set hi, set_set, hn]
    by_cases hm : m = 0
    · rw [if_pos hm]
      have : ys.drop (j + 1) = [] := List.drop_eq_nil_of_le (by omega)
      rw [this]
      show (seqAfter _ _ _).den = some _
      kernel_rfl
    · rw [if_neg hm]
      kernel_rfl
theorem ri_loop : LoopOK P (loopAt Tryd.f29 1) riL := by
  refine loop_ok (GammaOK.nil P) Go.Proofs.YtioplplpiaalhaaDoor.hm (Λ := loopsOf []) (LoopsOK.nil (by kernel_rfl)) _ ?_
  intro vals bs r h
  simp only [riL, riF] at h
  split at h
  · rename_i s i i2 len n j a b c d e f x0 x1 x2 x3 x4 x5 ys
    rw [den_need, den_leaf] at h
    simp only [Bool.and_eq_true, decide_eq_true_eq] at h
    obtain ⟨⟨⟨⟨⟨⟨⟨⟨h1, h2⟩, rfl⟩, rfl⟩, rfl⟩, h6⟩, h7⟩, h8⟩, rfl⟩ := h
    obtain ⟨k, rfl⟩ := Int.eq_ofNat_of_zero_le h1
    rw [Int.toNat_natCast] at h8 ⊢
    refine ⟨ys.length + 1, ?_⟩
    have hp : (1000 : Int) ^ ys.length ≤ 1000000000000 := by
      have : ys.length = 0 ∨ ys.length = 1 ∨ ys.length = 2 ∨ ys.length = 3 ∨ ys.length = 4 := by omega
      rcases this with e | e | e | e | e <;> rw [e] <;> decide
    have := ri_rounds s ⟨a, b, c, d, e, f⟩ k i2 (by omega) ys h7 h6.2 ys.length 0 ⟨x0, x1, x2, x3, x4, x5⟩ 1 (by omega) (by omega) (by rw [h8]; decide) (by rw [h8]; decide) (by omega)
    rw [List.drop_zero, h8] at this
    refine this.trans ?_
    rw [if_neg (by omega)]
  · simp [den_fail] at h
theorem ro2_round (s : ByteArray) (L x : Lab) (i : Int) : (evRound P (specsOf []) (loopsOf [(11, riL)]) 65 [0, 2, 4, 14] [] (loopAt Tryd.f29 0) [.str s, .ptr 0 0 0 0, .ptr 1 0 0 0, .int .i64 i] [.cells L.vs, .cells x.vs]).den = Tree.den (Tree.ite (decide (i < 6)) (Tree.ite (decide (i > 0)) (Tree.ite (decide (0 ≤ IntKind.i64.wrap (2 + IntKind.i64.wrap (3 * i))) && decide (IntKind.i64.wrap (2 + IntKind.i64.wrap (3 * i)) ≤ IntKind.i64.wrap (4 + IntKind.i64.wrap (3 * i))) && decide (IntKind.i64.wrap (4 + IntKind.i64.wrap (3 * i)) ≤ (↑s.size : Int))) (Tree.ite (decide (0 ≤ i) && decide (i < 6) && true && decide ((↑(s.extract (IntKind.i64.wrap (2 + IntKind.i64.wrap (3 * i))).toNat (IntKind.i64.wrap (4 + IntKind.i64.wrap (3 * i))).toNat).size : Int) = (↑(s.extract (IntKind.i64.wrap (2 + IntKind.i64.wrap (3 * i))).toNat (IntKind.i64.wrap (4 + IntKind.i64.wrap (3 * i))).toNat).size : Int)) && decide ((s.extract (IntKind.i64.wrap (2 + IntKind.i64.wrap (3 * i))).toNat (IntKind.i64.wrap (4 + IntKind.i64.wrap (3 * i))).toNat).size = (numsOf (s.extract (IntKind.i64.wrap (2 + IntKind.i64.wrap (3 * i))).toNat (IntKind.i64.wrap (4 + IntKind.i64.wrap (3 * i))).toNat)).length) && decide (1 ≤ (numsOf (s.extract (IntKind.i64.wrap (2 + IntKind.i64.wrap (3 * i))).toNat (IntKind.i64.wrap (4 + IntKind.i64.wrap (3 * i))).toNat)).length ∧ (numsOf (s.extract (IntKind.i64.wrap (2 + IntKind.i64.wrap (3 * i))).toNat (IntKind.i64.wrap (4 + IntKind.i64.wrap (3 * i))).toNat)).length ≤ 4) && (numsOf (s.extract (IntKind.i64.wrap (2 + IntKind.i64.wrap (3 * i))).toNat (IntKind.i64.wrap (4 + IntKind.i64.wrap (3 * i))).toNat)).all byteZ && decide (getI i.toNat x = 0)) (Tree.leaf { e := Ex.nrm, vs := [V.str s, V.ptr 0 0 0 0, V.ptr 1 0 0 0, V.int IntKind.i64 (IntKind.i64.wrap (i + 1))], upd := [none, some (some (Body.cells [V.int IntKind.i64 (if i.toNat = 0 then numF 0 (numsOf (s.extract (IntKind.i64.wrap (2 + IntKind.i64.wrap (3 * i))).toNat (IntKind.i64.wrap (4 + IntKind.i64.wrap (3 * i))).toNat)) else x.1), V.int IntKind.i64 (if i.toNat = 1 then numF 0 (numsOf (s.extract (IntKind.i64.wrap (2 + IntKind.i64.wrap (3 * i))).toNat (IntKind.i64.wrap (4 + IntKind.i64.wrap (3 * i))).toNat)) else x.2), V.int IntKind.i64 (if i.toNat = 2 then numF 0 (numsOf (s.extract (IntKind.i64.wrap (2 + IntKind.i64.wrap (3 * i))).toNat (IntKind.i64.wrap (4 + IntKind.i64.wrap (3 * i))).toNat)) else x.3), V.int IntKind.i64 (if i.toNat = 3 then numF 0 (numsOf (s.extract (IntKind.i64.wrap (2 + IntKind.i64.wrap (3 * i))).toNat (IntKind.i64.wrap (4 + IntKind.i64.wrap (3 * i))).toNat)) else x.4), V.int IntKind.i64 (if i.toNat = 4 then numF 0 (numsOf (s.extract (IntKind.i64.wrap (2 + IntKind.i64.wrap (3 * i))).toNat (IntKind.i64.wrap (4 + IntKind.i64.wrap (3 * i))).toNat)) else x.5), V.int IntKind.i64 (if i.toNat = 5 then numF 0 (numsOf (s.extract (IntKind.i64.wrap (2 + IntKind.i64.wrap (3 * i))).toNat (IntKind.i64.wrap (4 + IntKind.i64.wrap (3 * i))).toNat)) else x.6)]))], new := [] }) Tree.fail) Tree.fail) (Tree.ite (true && decide (0 ≤ IntKind.i64.wrap (4 + IntKind.i64.wrap (3 * i))) && decide (IntKind.i64.wrap (4 + IntKind.i64.wrap (3 * i)) ≤ (↑s.size : Int))) (Tree.ite (decide (0 ≤ i) && decide (i < 6) && true && decide ((↑(s.extract 0 (IntKind.i64.wrap (4 + IntKind.i64.wrap (3 * i))).toNat).size : Int) = (↑(s.extract 0 (IntKind.i64.wrap (4 + IntKind.i64.wrap (3 * i))).toNat).size : Int)) && decide ((s.extract 0 (IntKind.i64.wrap (4 + IntKind.i64.wrap (3 * i))).toNat).size = (numsOf (s.extract 0 (IntKind.i64.wrap (4 + IntKind.i64.wrap (3 * i))).toNat)).length) && decide (1 ≤ (numsOf (s.extract 0 (IntKind.i64.wrap (4 + IntKind.i64.wrap (3 * i))).toNat)).length ∧ (numsOf (s.extract 0 (IntKind.i64.wrap (4 + IntKind.i64.wrap (3 * i))).toNat)).length ≤ 4) && (numsOf (s.extract 0 (IntKind.i64.wrap (4 + IntKind.i64.wrap (3 * i))).toNat)).all byteZ && decide (getI i.toNat x = 0)) (Tree.leaf { e := Ex.nrm, vs := [V.str s, V.ptr 0 0 0 0, V.ptr 1 0 0 0, V.int IntKind.i64 (IntKind.i64.wrap (i + 1))], upd := [none, some (some (Body.cells [V.int IntKind.i64 (if i.toNat = 0 then numF 0 (numsOf (s.extract 0 (IntKind.i64.wrap (4 + IntKind.i64.wrap (3 * i))).toNat)) else x.1), V.int IntKind.i64 (if i.toNat = 1 then numF 0 (numsOf (s.extract 0 (IntKind.i64.wrap (4 + IntKind.i64.wrap (3 * i))).toNat)) else x.2), V.int IntKind.i64 (if i.toNat = 2 then numF 0 (numsOf (s.extract 0 (IntKind.i64.wrap (4 + IntKind.i64.wrap (3 * i))).toNat)) else x.3), V.int IntKind.i64 (if i.toNat = 3 then numF 0 (numsOf (s.extract 0 (IntKind.i64.wrap (4 + IntKind.i64.wrap (3 * i))).toNat)) else x.4), V.int IntKind.i64 (if i.toNat = 4 then numF 0 (numsOf (s.extract 0 (IntKind.i64.wrap (4 + IntKind.i64.wrap (3 * i))).toNat)) else x.5), V.int IntKind.i64 (if i.toNat = 5 then numF 0 (numsOf (s.extract 0 (IntKind.i64.wrap (4 + IntKind.i64.wrap (3 * i))).toNat)) else x.6)]))], new := [] }) Tree.fail) Tree.fail)) (Tree.leaf { e := Ex.exit 0, vs := [], upd := [none, none], new := [] })) := by
  kernel_rfl
theorem ro2_step (s : ByteArray) (L x : Lab) (i f : Nat) (hs : s.size = 19) (hi : i < 6) (hf : f = if i = 0 then 0 else 2 + 3 * i) (hx : getI i x = 0) :
    (evRound P (specsOf []) (loopsOf [(11, riL)]) 65 [0, 2, 4, 14] [] (loopAt Tryd.f29 0) [.str s, .ptr 0 0 0 0, .ptr 1 0 0 0, .int .i64 (i : Int)] [.cells L.vs, .cells x.vs]).den =
    some ⟨.nrm, [.str s, .ptr 0 0 0 0, .ptr 1 0 0 0, .int .i64 ((i + 1 : Nat) : Int)], [none, some (some (.cells (setI i (numF 0 (((numsOf s).drop f).take (4 + 3 * i - f))) x).vs))], []⟩ := by
  have pc (a b : Nat) (hab : a < b) (h4 : b ≤ a + 4) (hb : b ≤ 19) : numsOf (s.extract a b) = ((numsOf s).drop a).take (b - a) ∧ (numsOf (s.extract a b)).length = b - a ∧ (s.extract a b).size = b - a := by
    have e := nums_extract s a b
    have l : (numsOf (s.extract a b)).length = b - a := by rw [e]; simp [nums_len, hs]; omega
    exact ⟨e, l, by rw [← nums_len, l]⟩
  have w1 : IntKind.i64.wrap (3 * (i : Int)) = 3 * (i : Int) := wrap64_id (by omega) (by omega)
  have w2 : IntKind.i64.wrap (4 + 3 * (i : Int)) = ((4 + 3 * i : Nat) : Int) := by rw [wrap64_id (by omega) (by omega)]; omega
  have w3 : IntKind.i64.wrap (2 + 3 * (i : Int)) = ((2 + 3 * i : Nat) : Int) := by rw [wrap64_id (by omega) (by omega)]; omega
  have w4 : IntKind.i64.wrap ((i : Int) + 1) = ((i + 1 : Nat) : Int) := by rw [wrap64_id (by omega) (by omega)]; omega
  have ab (t : ByteArray) : (numsOf t).all byteZ = true := allByte_nums t
  rw [ro2_round, w1, w2, w3, w4, show decide ((i : Int) < 6) = true by simp; omega]
  simp only [Int.toNat_natCast, ab, hs, show decide (0 ≤ (i : Int)) = true by simp, hx, decide_true, Bool.and_true, Bool.true_and]
  by_cases h0 : i = 0
  · subst h0
    rw [if_pos rfl] at hf
    subst hf
    obtain ⟨p1, p2, p3⟩ := pc 0 4 (by decide) (by decide) (by decide)
    simp only [Nat.mul_zero, Nat.add_zero, Nat.sub_zero] at p1 p2 p3 ⊢
    simp only [p2, p3, decide_true, Bool.and_true, Bool.true_and]
    rw [← p1]
    rfl
  · rw [if_neg h0] at hf
    subst hf
    obtain ⟨p1, p2, p3⟩ := pc (2 + 3 * i) (4 + 3 * i) (by omega) (by omega) (by omega)
    have d1 : decide ((i : Int) > 0) = true := by simp; omega
    have d2 : decide (0 ≤ ((2 + 3 * i : Nat) : Int)) = true := by simp only [decide_eq_true_eq]; omega
    have d3 : decide (((2 + 3 * i : Nat) : Int) ≤ ((4 + 3 * i : Nat) : Int)) = true := by simp only [decide_eq_true_eq]; omega
    have d4 : decide (((4 + 3 * i : Nat) : Int) ≤ ((19 : Nat) : Int)) = true := by simp only [decide_eq_true_eq]; omega
    have d5 : decide (1 ≤ 4 + 3 * i - (2 + 3 * i) ∧ 4 + 3 * i - (2 + 3 * i) ≤ 4) = true := by simp only [decide_eq_true_eq]; omega
    simp only [p2, p3, d1, d2, d3, d4, d5, decide_true, Bool.and_true, Bool.true_and]
    rw [← p1]
    rfl
def piece (ns : List Int) (a b : Nat) : List Int := (ns.drop a).take (b - a)
def readL (ns : List Int) : Lab := ⟨numF 0 (piece ns 0 4), numF 0 (piece ns 5 7), numF 0 (piece ns 8 10), numF 0 (piece ns 11 13), numF 0 (piece ns 14 16), numF 0 (piece ns 17 19)⟩
theorem ro2_end (s : ByteArray) (L x : Lab) : (evRound P (specsOf []) (loopsOf [(11, riL)]) 65 [0, 2, 4, 14] [] (loopAt Tryd.f29 0) [.str s, .ptr 0 0 0 0, .ptr 1 0 0 0, .int .i64 6] [.cells L.vs, .cells x.vs]).den = some ⟨.exit 0, [], [none, none], []⟩ := by
  rw [ro2_round]; rfl
theorem ro2_all (s : ByteArray) (L : Lab) (hs : s.size = 19) :
    (loopN P (specsOf []) (loopsOf [(11, riL)]) 65 [0, 2, 4, 14] [] (loopAt Tryd.f29 0) 7 [.str s, .ptr 0 0 0 0, .ptr 1 0 0 0, .int .i64 0] [.cells L.vs, .cells Lab.zero.vs]).den = some ⟨.exit 0, [], [none, some (some (.cells (readL (numsOf s)).vs))], []⟩ := by
  obtain ⟨l, hl⟩ : ∃ l, l = readL (numsOf s) := ⟨_, rfl⟩
  have s0 := ro2_step s L Lab.zero 0 0 hs (by decide) rfl rfl
  have s1 := ro2_step s L ⟨l.y, 0, 0, 0, 0, 0⟩ 1 5 hs (by decide) rfl rfl
  have s2 := ro2_step s L ⟨l.y, l.mo, 0, 0, 0, 0⟩ 2 8 hs (by decide) rfl rfl
  have s3 := ro2_step s L ⟨l.y, l.mo, l.d, 0, 0, 0⟩ 3 11 hs (by decide) rfl rfl
  have s4 := ro2_step s L ⟨l.y, l.mo, l.d, l.h, 0, 0⟩ 4 14 hs (by decide) rfl rfl
  have s5 := ro2_step s L ⟨l.y, l.mo, l.d, l.h, l.mi, 0⟩ 5 17 hs (by decide) rfl rfl
  have t0 : setI 0 (numF 0 (((numsOf s).drop 0).take (4 + 3 * 0 - 0))) Lab.zero = ⟨l.y, 0, 0, 0, 0, 0⟩ := by rw [hl]; rfl
  have t1 : setI 1 (numF 0 (((numsOf s).drop 5).take (4 + 3 * 1 - 5))) ⟨l.y, 0, 0, 0, 0, 0⟩ = ⟨l.y, l.mo, 0, 0, 0, 0⟩ := by rw [hl]; rfl
  have t2 : setI 2 (numF 0 (((numsOf s).drop 8).take (4 + 3 * 2 - 8))) ⟨l.y, l.mo, 0, 0, 0, 0⟩ = ⟨l.y, l.mo, l.d, 0, 0, 0⟩ := by rw [hl]; rfl
  have t3 : setI 3 (numF 0 (((numsOf s).drop 11).take (4 + 3 * 3 - 11))) ⟨l.y, l.mo, l.d, 0, 0, 0⟩ = ⟨l.y, l.mo, l.d, l.h, 0, 0⟩ := by rw [hl]; rfl
  have t4 : setI 4 (numF 0 (((numsOf s).drop 14).take (4 + 3 * 4 - 14))) ⟨l.y, l.mo, l.d, l.h, 0, 0⟩ = ⟨l.y, l.mo, l.d, l.h, l.mi, 0⟩ := by rw [hl]; rfl
  have t5 : setI 5 (numF 0 (((numsOf s).drop 17).take (4 + 3 * 5 - 17))) ⟨l.y, l.mo, l.d, l.h, l.mi, 0⟩ = l := by rw [hl]; rfl
  rw [t0] at s0; rw [t1] at s1; rw [t2] at s2; rw [t3] at s3; rw [t4] at s4; rw [t5] at s5
  rw [← hl]
  clear t0 t1 t2 t3 t4 t5 hl
  have e6 := loopN_end (n := 0) (ro2_end s L l) (by simp)
  have e5 := loopN_step s5 rfl (vals' := [.str s, .ptr 0 0 0 0, .ptr 1 0 0 0, .int .i64 6]) (bs' := [.cells L.vs, .cells l.vs]) (r := ⟨.exit 0, [], [none, some (some (.cells l.vs))], []⟩) (by kernel_rfl) (by kernel_rfl) (by kernel_rfl) e6 (by kernel_rfl)
  have e4 := loopN_step s4 rfl (vals' := [.str s, .ptr 0 0 0 0, .ptr 1 0 0 0, .int .i64 5]) (bs' := [.cells L.vs, .cells (Lab.mk l.y l.mo l.d l.h l.mi 0).vs]) (r := ⟨.exit 0, [], [none, some (some (.cells l.vs))], []⟩) (by kernel_rfl) (by kernel_rfl) (by kernel_rfl) e5 (by kernel_rfl)
  have e3 := loopN_step s3 rfl (vals' := [.str s, .ptr 0 0 0 0, .ptr 1 0 0 0, .int .i64 4]) (bs' := [.cells L.vs, .cells (Lab.mk l.y l.mo l.d l.h 0 0).vs]) (r := ⟨.exit 0, [], [none, some (some (.cells l.vs))], []⟩) (by kernel_rfl) (by kernel_rfl) (by kernel_rfl) e4 (by kernel_rfl)
  have e2 := loopN_step s2 rfl (vals' := [.str s, .ptr 0 0 0 0, .ptr 1 0 0 0, .int .i64 3]) (bs' := [.cells L.vs, .cells (Lab.mk l.y l.mo l.d 0 0 0).vs]) (r := ⟨.exit 0, [], [none, some (some (.cells l.vs))], []⟩) (by kernel_rfl) (by kernel_rfl) (by kernel_rfl) e3 (by kernel_rfl)
  have e1 := loopN_step s1 rfl (vals' := [.str s, .ptr 0 0 0 0, .ptr 1 0 0 0, .int .i64 2]) (bs' := [.cells L.vs, .cells (Lab.mk l.y l.mo 0 0 0 0).vs]) (r := ⟨.exit 0, [], [none, some (some (.cells l.vs))], []⟩) (by kernel_rfl) (by kernel_rfl) (by kernel_rfl) e2 (by kernel_rfl)
  exact loopN_step s0 rfl (vals' := [.str s, .ptr 0 0 0 0, .ptr 1 0 0 0, .int .i64 1]) (bs' := [.cells L.vs, .cells (Lab.mk l.y 0 0 0 0 0).vs]) (r := ⟨.exit 0, [], [none, some (some (.cells l.vs))], []⟩) (by kernel_rfl) (by kernel_rfl) (by kernel_rfl) e1 (by kernel_rfl)
def ro2F (vals : List V) (bs : List Blk) : Tree LRes := match vals, bs with
  | [.str s, .ptr 0 0 0 0, .ptr 1 0 0 0, .int .i64 i], [.cells [.int .i64 a, .int .i64 b, .int .i64 c, .int .i64 d, .int .i64 e, .int .i64 f], .cells [.int .i64 x0, .int .i64 x1, .int .i64 x2, .int .i64 x3, .int .i64 x4, .int .i64 x5]] =>
    .need (decide (s.size = 19) && decide (i = 0) && Lab.eqB ⟨x0, x1, x2, x3, x4, x5⟩ Lab.zero)
      (.leaf ⟨.exit 0, [], [none, some (some (.cells (readL (numsOf s)).vs))], []⟩)
  | _, _ => .fail
def ro2L : LSpec := ⟨65, [0, 2, 4, 14], [], ro2F⟩
theorem ro2_loop : LoopOK P (loopAt Tryd.f29 0) ro2L := by
  refine loop_ok (GammaOK.nil P) Go.Proofs.YtioplplpiaalhaaDoor.hm (Λ := loopsOf [(11, riL)]) (LoopsOK.inner (by kernel_rfl) (d := loopAt Tryd.f29 1) (by kernel_rfl) ri_loop) _ ?_
  intro vals bs r h
  simp only [ro2L, ro2F] at h
  split at h
  · rename_i s i a b c d e f x0 x1 x2 x3 x4 x5
    rw [den_need, den_leaf] at h
    simp only [Bool.and_eq_true, decide_eq_true_eq, Lab.eqB_iff] at h
    obtain ⟨⟨⟨h1, rfl⟩, h3⟩, rfl⟩ := h
    simp only [Lab.zero, Lab.mk.injEq] at h3
    obtain ⟨rfl, rfl, rfl, rfl, rfl, rfl⟩ := h3
    exact ⟨7, ro2_all s ⟨a, b, c, d, e, f⟩ h1⟩
  · simp [den_fail] at h
def readB (s : ByteArray) : Bool := s.size == 19 && sEq (bytesOf (textZ (readL (numsOf s)))) s
def readS : Rx.Spec := fun a b => match a, b with
  | [.str s], [] => .ite (readB s) (.leaf ⟨.tup [(readL (numsOf s)).v, .bool true], [], []⟩) (.leaf ⟨.tup [Lab.zero.v, .bool false], [], []⟩)
  | _, _ => .fail
abbrev rdG : List (Nat × Rx.Spec) := [(28, textS)]
theorem rdG_ok : GammaOK P rdG := .cons text_ok (.nil P)
theorem read_ok : SpecOK P 29 readS := by
  refine specOK_fast rdG_ok hm (Λ := loopsOf [(5, ro2L)]) Tryd.func29 (by kernel_rfl) (LoopsOK.outer (by kernel_rfl) (by kernel_rfl) ro2_loop) ?_
  intro args bs r h
  unfold readS at h
  split at h
  · rename_i s
    rw [denI, denLf, denLf] at h
    rw [show (fFn P (specsOf rdG) (loopsOf [(5, ro2L)]) Tryd.f29 [.str s] []).denN = Tree.denN (Tree.ite ((↑s.size : Int) != 19) (Tree.leaf { v := V.tup [V.agg [V.int IntKind.i64 0, V.int IntKind.i64 0, V.int IntKind.i64 0, V.int IntKind.i64 0, V.int IntKind.i64 0, V.int IntKind.i64 0], V.fls], upd := [], new := [] }) (Tree.ite (decide (s.size = 19) && true && true) (Tree.ite (!sEq (bytesOf (textZ { y := [numF 0 (piece (numsOf s) 0 4), numF 0 (piece (numsOf s) 5 7), numF 0 (piece (numsOf s) 8 10), numF 0 (piece (numsOf s) 11 13), numF 0 (piece (numsOf s) 14 16), numF 0 (piece (numsOf s) 17 19)].getD 0 0, mo := [numF 0 (piece (numsOf s) 0 4), numF 0 (piece (numsOf s) 5 7), numF 0 (piece (numsOf s) 8 10), numF 0 (piece (numsOf s) 11 13), numF 0 (piece (numsOf s) 14 16), numF 0 (piece (numsOf s) 17 19)].getD 1 0, d := [numF 0 (piece (numsOf s) 0 4), numF 0 (piece (numsOf s) 5 7), numF 0 (piece (numsOf s) 8 10), numF 0 (piece (numsOf s) 11 13), numF 0 (piece (numsOf s) 14 16), numF 0 (piece (numsOf s) 17 19)].getD 2 0, h := [numF 0 (piece (numsOf s) 0 4), numF 0 (piece (numsOf s) 5 7), numF 0 (piece (numsOf s) 8 10), numF 0 (piece (numsOf s) 11 13), numF 0 (piece (numsOf s) 14 16), numF 0 (piece (numsOf s) 17 19)].getD 3 0, mi := [numF 0 (piece (numsOf s) 0 4), numF 0 (piece (numsOf s) 5 7), numF 0 (piece (numsOf s) 8 10), numF 0 (piece (numsOf s) 11 13), numF 0 (piece (numsOf s) 14 16), numF 0 (piece (numsOf s) 17 19)].getD 4 0, s := [numF 0 (piece (numsOf s) 0 4), numF 0 (piece (numsOf s) 5 7), numF 0 (piece (numsOf s) 8 10), numF 0 (piece (numsOf s) 11 13), numF 0 (piece (numsOf s) 14 16), numF 0 (piece (numsOf s) 17 19)].getD 5 0 })) s) (Tree.leaf { v := V.tup [V.agg [V.int IntKind.i64 0, V.int IntKind.i64 0, V.int IntKind.i64 0, V.int IntKind.i64 0, V.int IntKind.i64 0, V.int IntKind.i64 0], V.fls], upd := [], new := [] }) (Tree.leaf { v := V.tup [V.agg [V.int IntKind.i64 ([numF 0 (piece (numsOf s) 0 4), numF 0 (piece (numsOf s) 5 7), numF 0 (piece (numsOf s) 8 10), numF 0 (piece (numsOf s) 11 13), numF 0 (piece (numsOf s) 14 16), numF 0 (piece (numsOf s) 17 19)].getD 0 0), V.int IntKind.i64 ([numF 0 (piece (numsOf s) 0 4), numF 0 (piece (numsOf s) 5 7), numF 0 (piece (numsOf s) 8 10), numF 0 (piece (numsOf s) 11 13), numF 0 (piece (numsOf s) 14 16), numF 0 (piece (numsOf s) 17 19)].getD 1 0), V.int IntKind.i64 ([numF 0 (piece (numsOf s) 0 4), numF 0 (piece (numsOf s) 5 7), numF 0 (piece (numsOf s) 8 10), numF 0 (piece (numsOf s) 11 13), numF 0 (piece (numsOf s) 14 16), numF 0 (piece (numsOf s) 17 19)].getD 2 0), V.int IntKind.i64 ([numF 0 (piece (numsOf s) 0 4), numF 0 (piece (numsOf s) 5 7), numF 0 (piece (numsOf s) 8 10), numF 0 (piece (numsOf s) 11 13), numF 0 (piece (numsOf s) 14 16), numF 0 (piece (numsOf s) 17 19)].getD 3 0), V.int IntKind.i64 ([numF 0 (piece (numsOf s) 0 4), numF 0 (piece (numsOf s) 5 7), numF 0 (piece (numsOf s) 8 10), numF 0 (piece (numsOf s) 11 13), numF 0 (piece (numsOf s) 14 16), numF 0 (piece (numsOf s) 17 19)].getD 4 0), V.int IntKind.i64 ([numF 0 (piece (numsOf s) 0 4), numF 0 (piece (numsOf s) 5 7), numF 0 (piece (numsOf s) 8 10), numF 0 (piece (numsOf s) 11 13), numF 0 (piece (numsOf s) 14 16), numF 0 (piece (numsOf s) 17 19)].getD 5 0)], V.tru], upd := [], new := [] })) Tree.fail)) from by kernel_rfl]
    simp only [denN_ite, denN_leaf, denN_fail]
    simp only [List.getD_cons_zero, List.getD_cons_succ]
    rw [show (⟨numF 0 (piece (numsOf s) 0 4), numF 0 (piece (numsOf s) 5 7), numF 0 (piece (numsOf s) 8 10), numF 0 (piece (numsOf s) 11 13), numF 0 (piece (numsOf s) 14 16), numF 0 (piece (numsOf s) 17 19)⟩ : Lab) = readL (numsOf s) from rfl]
    by_cases h1 : s.size = 19
    · have e : readB s = sEq (bytesOf (textZ (readL (numsOf s)))) s := by unfold readB; rw [beq_iff_eq.2 h1]; rfl
      rw [if_neg (by simp [h1]), if_pos (by simp [h1])]
      rw [e] at h
      cases hq : sEq (bytesOf (textZ (readL (numsOf s)))) s with
      | true => rw [hq, if_pos rfl] at h; cases h; rfl
      | false => rw [hq, if_neg (by decide)] at h; cases h; rfl
    · have e : readB s = false := by unfold readB; rw [beq_eq_false_iff_ne.2 h1]; rfl
      rw [e, if_neg (by decide)] at h; cases h
      rw [if_pos (by simp; omega)]
      rfl
  · simp [den_fail] at h
end Go.Proofs.YtioplplpiaalhaaDoor

set_option maxRecDepth 100000
set_option linter.unusedSimpArgs false
set_option linter.unusedVariables false
namespace Go.Proofs.YtioplplpiaalhaaDoor
open Go.Rx

def digN : Nat → Int → List Int
  | 0, _ => []
  | k + 1, n => digN k (n / 10) ++ [48 + n % 10]
def digS (K : Nat) : Rx.Spec := fun a b => match a, b with
  | [.int .i64 n, .int .i64 m], [] => .need (decide (0 ≤ n) && decide (n ≤ 9223372036854775807) && decide (0 ≤ m) && decide (m ≤ (K : Int))) (.leaf ⟨.str (bytesOf (digN m.toNat n)), [], []⟩)
  | _, _ => .fail
theorem digN_len : ∀ (k : Nat) (n : Int), (digN k n).length = k
  | 0, _ => rfl
  | k + 1, n => by simp [digN, digN_len k]
theorem dig_nf (K : Nat) (n m : Int) : (fFn P (specsOf [(37, digS K)]) (loopsOf []) Tryd.f37 [.int .i64 n, .int .i64 m] []).den = Tree.den (Tree.ite (m == 0) (Tree.leaf { v := V.str { data := #[] }, upd := [], new := [] }) (Tree.ite (decide (0 ≤ IntKind.i64.wrap (n.tdiv 10)) && decide (IntKind.i64.wrap (n.tdiv 10) ≤ 9223372036854775807) && decide (0 ≤ IntKind.i64.wrap (m - 1)) && decide (IntKind.i64.wrap (m - 1) ≤ (↑K : Int))) (Tree.ite (decide ((bytesOf (digN (IntKind.i64.wrap (m - 1)).toNat (IntKind.i64.wrap (n.tdiv 10)))).size + 1 ≤ 9223372036854775807)) (Tree.leaf { v := V.str (bytesOf (digN (IntKind.i64.wrap (m - 1)).toNat (IntKind.i64.wrap (n.tdiv 10))) ++ bytesOf (List.take 1 (List.drop 0 [IntKind.u8.wrap (IntKind.i64.wrap (48 + n.tmod 10))]))), upd := [], new := [] }) Tree.fail) Tree.fail)) := by
  kernel_rfl
theorem dig_nf0 (n : Int) : (fFn P (specsOf []) (loopsOf []) Tryd.f37 [.int .i64 n, .int .i64 0] []).den = Tree.den (Tree.leaf { v := V.str { data := #[] }, upd := [], new := [] }) := by
  kernel_rfl
theorem dig_ok : ∀ K : Nat, K ≤ 100 → SpecOK P 37 (digS K)
  | 0, _ => by
    refine specOK_fast (GammaOK.nil P) hm (Λ := loopsOf []) Tryd.func37 (by kernel_rfl) (LoopsOK.nil (by kernel_rfl)) ?_
    intro args bs r h
    unfold digS at h
    split at h
    · rename_i n m
      rw [den_need, den_leaf] at h
      simp only [Bool.and_eq_true, decide_eq_true_eq] at h
      obtain ⟨⟨⟨⟨h1, h2⟩, h3⟩, h4⟩, rfl⟩ := h
      obtain rfl : m = 0 := by omega
      exact denN_of ((dig_nf0 n).trans rfl)
    · simp [den_fail] at h
  | K + 1, hK => by
    refine specOK_fast (GammaOK.cons (dig_ok K (by omega)) (GammaOK.nil P)) hm (Λ := loopsOf []) Tryd.func37 (by kernel_rfl) (LoopsOK.nil (by kernel_rfl)) ?_
    intro args bs r h
    unfold digS at h
    split at h
    · rename_i n m
      rw [den_need, den_leaf] at h
      simp only [Bool.and_eq_true, decide_eq_true_eq] at h
      obtain ⟨⟨⟨⟨h1, h2⟩, h3⟩, h4⟩, rfl⟩ := h
      refine denN_of ((dig_nf K n m).trans ?_)
      by_cases h0 : m = 0
      · subst h0; rfl
      · obtain ⟨k, rfl⟩ := Int.eq_ofNat_of_zero_le h3
        obtain ⟨j, rfl⟩ : ∃ j, k = j + 1 := ⟨k - 1, by omega⟩
        have q1 : n.tdiv 10 = n / 10 := Int.tdiv_eq_ediv_of_nonneg h1
        have q2 : n.tmod 10 = n % 10 := Int.tmod_eq_emod_of_nonneg h1
        have w1 : IntKind.i64.wrap (n / 10) = n / 10 := wrap64_id (by omega) (by omega)
        have w2 : IntKind.i64.wrap (((j + 1 : Nat) : Int) - 1) = (j : Int) := by rw [wrap64_id (by omega) (by omega)]; omega
        have w3 : IntKind.i64.wrap (48 + n % 10) = 48 + n % 10 := wrap64_id (by omega) (by omega)
        have w4 : IntKind.u8.wrap (48 + n % 10) = 48 + n % 10 := by rw [IntKind.wrap_u8]; omega
        have b0 : (((j + 1 : Nat) : Int) == 0) = false := by rw [beq_eq_false_iff_ne]; omega
        rw [q1, q2, w1, w2, w3, w4, b0, bytesOf_size, Int.toNat_natCast, digN_len, show decide (0 ≤ n / 10) = true by simp; omega, show decide (n / 10 ≤ 9223372036854775807) = true by simp; omega, show decide (0 ≤ (j : Int)) = true by simp, show decide ((j : Int) ≤ (K : Int)) = true by simp only [decide_eq_true_eq]; omega,
          show decide (j + 1 ≤ 9223372036854775807) = true by simp only [decide_eq_true_eq]; omega, bytesOf_append]
        rfl
    · simp [den_fail] at h

theorem dig2_eq {n : Int} (h0 : 0 ≤ n) (h1 : n ≤ 99) : digN 2 n = dig2 n := by
  simp only [digN, dig2, List.nil_append, List.cons_append, List.cons.injEq, and_true]; omega
theorem dig4_eq {n : Int} (h0 : 0 ≤ n) (h1 : n ≤ 9999) : digN 4 n = dig4 n := by
  simp only [digN, dig4, List.nil_append, List.cons_append, List.cons.injEq, and_true]; omega
abbrev rtG : List (Nat × Rx.Spec) := [(25, rightS), (37, digS 4)]
theorem rtG_ok : GammaOK P rtG := .cons refRight_ok (.cons (dig_ok 4 (by decide)) (.nil P))
theorem refText_ok : SpecOK P 31 textS := by
  refine specOK_fast rtG_ok hm (Λ := loopsOf []) Tryd.func31 (by kernel_rfl) (LoopsOK.nil (by kernel_rfl)) ?_
  intro args bs r h
  unfold textS at h
  split at h
  · split at h
    · rename_i u _ l hl
      rw [Lab.of_eq hl]
      rw [denLf] at h; cases h
      rw [show (fFn P (specsOf rtG) (loopsOf []) Tryd.f31 [l.v] []).denN = Tree.denN (Tree.ite (!rightZ l) (Tree.leaf { v := V.str { data := #[] }, upd := [], new := [] }) (Tree.ite (decide (0 ≤ l.1) && decide (l.1 ≤ 9223372036854775807) && true && true) (Tree.ite (decide (0 ≤ l.2) && decide (l.2 ≤ 9223372036854775807) && true && true) (Tree.ite (decide (0 ≤ l.3) && decide (l.3 ≤ 9223372036854775807) && true && true) (Tree.ite (decide (0 ≤ l.4) && decide (l.4 ≤ 9223372036854775807) && true && true) (Tree.ite (decide (0 ≤ l.5) && decide (l.5 ≤ 9223372036854775807) && true && true) (Tree.ite (decide (0 ≤ l.6) && decide (l.6 ≤ 9223372036854775807) && true && true) (Tree.leaf { v := V.str (bytesOf (digN 4 l.1) ++ { data := #[OfNat.ofNat 45] } ++ bytesOf (digN 2 l.2) ++ { data := #[OfNat.ofNat 45] } ++ bytesOf (digN 2 l.3) ++ { data := #[OfNat.ofNat 84] } ++ bytesOf (digN 2 l.4) ++ { data := #[OfNat.ofNat 58] } ++ bytesOf (digN 2 l.5) ++ { data := #[OfNat.ofNat 58] } ++ bytesOf (digN 2 l.6)), upd := [], new := [] }) Tree.fail) Tree.fail) Tree.fail) Tree.fail) Tree.fail) Tree.fail)) from by kernel_rfl]
      simp only [denN_ite, denN_leaf, denN_fail]
      cases hr : rightZ l with
      | false =>
        have e : textZ l = [] := by unfold textZ; rw [hr]; rfl
        rw [e]; rfl
      | true =>
        obtain ⟨g1, g2, g3, g4, g5, g6, g7, _⟩ := right_mem hr
        obtain ⟨d1, d2, d3, d4, d5, d6, d7, d8⟩ := day_mem g1
        have hlg := longZ_bd l.y l.mo
        have e : textZ l = txt l := by unfold textZ; rw [hr]; rfl
        have c45 : ({ data := #[OfNat.ofNat 45] } : ByteArray) = bytesOf [45] := rfl
        have c84 : ({ data := #[OfNat.ofNat 84] } : ByteArray) = bytesOf [84] := rfl
        have c58 : ({ data := #[OfNat.ofNat 58] } : ByteArray) = bytesOf [58] := rfl
        rw [if_neg (by decide), if_pos (by simp; omega), if_pos (by simp; omega), if_pos (by simp; omega), if_pos (by simp; omega), if_pos (by simp; omega), if_pos (by simp; omega), e, c45, c84, c58, dig4_eq (by omega) (by omega),
          dig2_eq (by omega) (by omega), dig2_eq (by omega) (by omega), dig2_eq (by omega) (by omega), dig2_eq (by omega) (by omega), dig2_eq (by omega) (by omega)]
        simp only [bytesOf_append]
        rfl
    · simp [den_fail] at h
  · simp [den_fail] at h

def numG (a : Int) : List Int → Bool × Int
  | [] => (true, a)
  | c :: r => if 48 ≤ c ∧ c ≤ 57 then numG (10 * a + c - 48) r else (false, a)
def numD (ys : List Int) : Int := if (numG 0 ys).1 = true then (numG 0 ys).2 else -1
theorem nu_round (s : ByteArray) (n i : Int) : (evRound P (specsOf []) (loopsOf []) 30 [0, 3, 4] [2, 3] (loopAt Tryd.f36 0) [.str s, .int .i64 n, .int .i64 i] []).den = Tree.den (Tree.ite (decide (i < (↑s.size : Int))) (Tree.ite (decide (0 ≤ i) && decide (i < (↑s.size : Int))) (Tree.ite (decide (sAt s i.toNat < 48)) (Tree.leaf { e := Ex.ret, vs := [V.int IntKind.i64 (-1), V.int IntKind.i64 n], upd := [], new := [] }) (Tree.ite (decide (0 ≤ i) && decide (i < (↑s.size : Int))) (Tree.ite (decide (sAt s i.toNat > 57)) (Tree.leaf { e := Ex.ret, vs := [V.int IntKind.i64 (-1), V.int IntKind.i64 n], upd := [], new := [] }) (Tree.ite (decide (0 ≤ i) && decide (i < (↑s.size : Int))) (Tree.leaf { e := Ex.nrm, vs := [V.str s, V.int IntKind.i64 (IntKind.i64.wrap (IntKind.i64.wrap (IntKind.i64.wrap (n * 10) + IntKind.i64.wrap (sAt s i.toNat)) - 48)), V.int IntKind.i64 (IntKind.i64.wrap (i + 1))], upd := [], new := [] }) Tree.fail)) Tree.fail)) Tree.fail) (Tree.leaf { e := Ex.exit 0, vs := [V.any, V.int IntKind.i64 n], upd := [], new := [] })) := by
  kernel_rfl
theorem sAt_nums (s : ByteArray) (i : Nat) : sAt s i = (numsOf s).getD i 0 := by
  unfold sAt numsOf
  simp only [List.getD_eq_getElem?_getD, List.getElem?_map]
  cases s.data.toList[i]? <;> rfl
def nuR (p : Bool × Int) : LRes := match p with
  | (true, v) => ⟨.exit 0, [.any, .int .i64 v], [], []⟩
  | (false, v) => ⟨.ret, [.int .i64 (-1), .int .i64 v], [], []⟩
theorem nu_rounds (s : ByteArray) (hl : s.size ≤ 4) : ∀ (m : Nat) (j : Nat) (a B : Int), j + m = s.size → 1 ≤ B → -B ≤ a → a ≤ B → B * 1000 ^ m ≤ 1000000000000000 →
    (loopN P (specsOf []) (loopsOf []) 30 [0, 3, 4] [2, 3] (loopAt Tryd.f36 0) (m + 1) [.str s, .int .i64 a, .int .i64 (j : Int)] []).den =
      some (nuR (numG a ((numsOf s).drop j))) := by
  have hlen := nums_len s
  intro m
  induction m with
  | zero =>
    intro j a B hj _ _ _ _
    have : (numsOf s).drop j = [] := List.drop_eq_nil_of_le (by omega)
    rw [this]
    refine loopN_end (r1 := ⟨.exit 0, [.any, .int .i64 a], [], []⟩) ?_ (by simp)
    rw [nu_round, show decide ((j : Int) < (s.size : Int)) = false by simp; omega]
    rfl
  | succ m ih =>
    intro j a B hj hB h1 h2 h3
    have hc := allByte_at (allByte_nums s) j
    have h4 : B * 1000 ≤ 1000000000000000 := by
      have : B * 1000 ≤ B * 1000 * 1000 ^ m := by
        have h5 : (0 : Int) < 1000 ^ m := Int.pow_pos (by decide)
        have := Int.mul_le_mul_of_nonneg_left (show (1 : Int) ≤ 1000 ^ m from h5) (show 0 ≤ B * 1000 by omega)
        omega
      rw [Int.pow_succ, Int.mul_comm (1000 ^ m) 1000, ← Int.mul_assoc] at h3
      omega
    have hd : (numsOf s).drop j = (numsOf s).getD j 0 :: (numsOf s).drop (j + 1) := drop_getD (by omega)
    have hr := nu_round s a (j : Int)
    rw [show decide ((j : Int) < (s.size : Int)) = true by simp; omega, show decide (0 ≤ (j : Int)) = true by simp, Int.toNat_natCast, sAt_nums] at hr
    rw [hd]
    by_cases g1 : (numsOf s).getD j 0 < 48
    · rw [show numG a ((numsOf s).getD j 0 :: (numsOf s).drop (j + 1)) = (false, a) by simp only [numG]; rw [if_neg (by omega)]]
      refine loopN_end (r1 := ⟨.ret, [.int .i64 (-1), .int .i64 a], [], []⟩) ?_ (by simp)
      rw [hr, decide_eq_true g1]
      rfl
    by_cases g2 : (numsOf s).getD j 0 > 57
    · rw [show numG a ((numsOf s).getD j 0 :: (numsOf s).drop (j + 1)) = (false, a) by simp only [numG]; rw [if_neg (by omega)]]
      refine loopN_end (r1 := ⟨.ret, [.int .i64 (-1), .int .i64 a], [], []⟩) ?_ (by simp)
      rw [hr, decide_eq_false g1, decide_eq_true g2]
      rfl
    rw [show numG a ((numsOf s).getD j 0 :: (numsOf s).drop (j + 1)) = numG (10 * a + (numsOf s).getD j 0 - 48) ((numsOf s).drop (j + 1)) by simp only [numG]; rw [if_pos (by omega)]]
    have w1 : IntKind.i64.wrap (a * 10) = a * 10 := wrap64_id (by omega) (by omega)
    have w2 : IntKind.i64.wrap ((numsOf s).getD j 0) = (numsOf s).getD j 0 := wrap64_id (by omega) (by omega)
    have w3 : IntKind.i64.wrap (a * 10 + (numsOf s).getD j 0) = a * 10 + (numsOf s).getD j 0 := wrap64_id (by omega) (by omega)
    have w4 : IntKind.i64.wrap (a * 10 + (numsOf s).getD j 0 - 48) = 10 * a + (numsOf s).getD j 0 - 48 := by rw [wrap64_id (by omega) (by omega)]; omega
    have w5 : IntKind.i64.wrap ((j : Int) + 1) = ((j + 1 : Nat) : Int) := by rw [wrap64_id (by omega) (by omega)]; omega
    rw [decide_eq_false g1, decide_eq_false g2, w1, w2, w3, w4, w5] at hr
    simp only [Tree.den, Bool.and_self] at hr
    have ih' := ih (j + 1) (10 * a + (numsOf s).getD j 0 - 48) (B * 1000) (by omega) (by omega) (by omega) (by omega) (by rw [Int.mul_assoc, Int.mul_comm 1000, ← Int.pow_succ]; exact h3)
    refine loopN_step hr rfl (vals' := [.str s, .int .i64 (10 * a + (numsOf s).getD j 0 - 48), .int .i64 ((j + 1 : Nat) : Int)]) (bs' := []) (by kernel_rfl) (by kernel_rfl) (by kernel_rfl) ih' ?_
    rcases numG (10 * a + (numsOf s).getD j 0 - 48) ((numsOf s).drop (j + 1)) with ⟨_ | _, v⟩ <;> kernel_rfl
def nuF (vals : List V) (bs : List Blk) : Tree LRes := match vals, bs with
  | [.str s, .int .i64 n, .int .i64 i], [] =>
    .need (decide (s.size ≤ 4) && decide (n = 0) && decide (i = 0)) (.ite (numG 0 (numsOf s)).1 (.leaf ⟨.exit 0, [.any, .int .i64 (numG 0 (numsOf s)).2], [], []⟩) (.leaf ⟨.ret, [.int .i64 (-1), .int .i64 (numG 0 (numsOf s)).2], [], []⟩))
  | _, _ => .fail
def nuL : LSpec := ⟨30, [0, 3, 4], [2, 3], nuF⟩
theorem nu_loop : LoopOK P (loopAt Tryd.f36 0) nuL := by
  refine loop_ok (GammaOK.nil P) Go.Proofs.YtioplplpiaalhaaDoor.hm (Λ := loopsOf []) (LoopsOK.nil (by kernel_rfl)) _ ?_
  intro vals bs r h
  simp only [nuL, nuF] at h
  split at h
  · rename_i s n i
    rw [den_need, denI, denLf, denLf] at h
    simp only [Bool.and_eq_true, decide_eq_true_eq] at h
    obtain ⟨⟨⟨h1, rfl⟩, rfl⟩, h⟩ := h
    refine ⟨s.size + 1, ?_⟩
    have hp : (1000 : Int) ^ s.size ≤ 1000000000000 := by
      have : s.size = 0 ∨ s.size = 1 ∨ s.size = 2 ∨ s.size = 3 ∨ s.size = 4 := by omega
      rcases this with e | e | e | e | e <;> rw [e] <;> decide
    have := nu_rounds s h1 s.size 0 0 1 (by omega) (by omega) (by omega) (by omega) (by omega)
    rw [List.drop_zero] at this
    refine this.trans ?_
    rw [← h]
    rcases numG 0 (numsOf s) with ⟨_ | _, v⟩ <;> rfl
  · simp [den_fail] at h
def numS : Rx.Spec := fun a b => match a, b with
  | [.str s], [] => .need (decide (s.size ≤ 4)) (.leaf ⟨.int .i64 (numD (numsOf s)), [], []⟩)
  | _, _ => .fail
theorem num_ok : SpecOK P 36 numS := by
  refine specOK_fast (GammaOK.nil P) hm (Λ := loopsOf [(3, nuL)]) Tryd.func36 (by kernel_rfl) (LoopsOK.one (by kernel_rfl) nu_loop) ?_
  intro args bs r h
  unfold numS at h
  split at h
  · rename_i s
    rw [den_need, den_leaf] at h
    obtain ⟨hs, rfl⟩ := h
    rw [show (fFn P (specsOf []) (loopsOf [(3, nuL)]) Tryd.f36 [.str s] []).denN = Tree.denN (Tree.ite (decide (s.size ≤ 4) && true && true) (Tree.ite (numG 0 (numsOf s)).fst (Tree.leaf { v := V.int IntKind.i64 (numG 0 (numsOf s)).snd, upd := [], new := [] }) (Tree.leaf { v := V.int IntKind.i64 (-1), upd := [], new := [] })) Tree.fail) from by kernel_rfl]
    simp only [denN_ite, denN_leaf, denN_fail, hs, Bool.and_true, decide_true, if_true]
    unfold numD
    split <;> rfl
  · simp [den_fail] at h
theorem d4_of {a b c d : Int} (h : 0 ≤ numD [a, b, c, d]) : numD [a, b, c, d] = numF 0 [a, b, c, d] ∧ dig4 (numD [a, b, c, d]) = [a, b, c, d] := by
  by_cases ha : 48 ≤ a ∧ a ≤ 57
  · by_cases hb : 48 ≤ b ∧ b ≤ 57
    · by_cases hc : 48 ≤ c ∧ c ≤ 57
      · by_cases hd : 48 ≤ d ∧ d ≤ 57
        · have e : numD [a, b, c, d] = numF 0 [a, b, c, d] := by simp [numD, numG, numF, ha, hb, hc, hd]
          refine ⟨e, ?_⟩
          rw [e]
          simp only [numF, dig4, List.foldl_cons, List.foldl_nil, List.cons.injEq, and_true]
          omega
        · simp [numD, numG, ha, hb, hc, hd] at h
      · simp [numD, numG, ha, hb, hc] at h
    · simp [numD, numG, ha, hb] at h
  · simp [numD, numG, ha] at h
theorem d2_of {a b : Int} (h : 0 ≤ numD [a, b]) : numD [a, b] = numF 0 [a, b] ∧ dig2 (numD [a, b]) = [a, b] := by
  by_cases ha : 48 ≤ a ∧ a ≤ 57
  · by_cases hb : 48 ≤ b ∧ b ≤ 57
    · have e : numD [a, b] = numF 0 [a, b] := by simp [numD, numG, numF, ha, hb]
      refine ⟨e, ?_⟩
      rw [e]
      simp only [numF, dig2, List.foldl_cons, List.foldl_nil, List.cons.injEq, and_true]
      omega
    · simp [numD, numG, ha, hb] at h
  · simp [numD, numG, ha] at h
theorem d4_to {v a b c d : Int} (h0 : 0 ≤ v) (h1 : v ≤ 9999) (h : dig4 v = [a, b, c, d]) : numD [a, b, c, d] = v := by
  simp only [dig4, List.cons.injEq, and_true] at h
  obtain ⟨ha, hb, hc, hd⟩ := h
  have a1 : 48 ≤ a ∧ a ≤ 57 := by omega
  have b1 : 48 ≤ b ∧ b ≤ 57 := by omega
  have c1 : 48 ≤ c ∧ c ≤ 57 := by omega
  have d1 : 48 ≤ d ∧ d ≤ 57 := by omega
  simp only [numD, numG, a1, b1, c1, d1, and_self, if_true]
  omega
theorem d2_to {v a b : Int} (h0 : 0 ≤ v) (h1 : v ≤ 99) (h : dig2 v = [a, b]) : numD [a, b] = v := by
  simp only [dig2, List.cons.injEq, and_true] at h
  obtain ⟨ha, hb⟩ := h
  have a1 : 48 ≤ a ∧ a ≤ 57 := by omega
  have b1 : 48 ≤ b ∧ b ≤ 57 := by omega
  simp only [numD, numG, a1, b1, and_self, if_true]
  omega
theorem txt_bytes {l : Lab} (h : rightZ l = true) : ∀ n ∈ txt l, 0 ≤ n ∧ n ≤ 255 := by
  obtain ⟨g1, g2, g3, g4, g5, g6, g7, _⟩ := right_mem h
  obtain ⟨d1, d2, d3, d4, d5, d6, d7, d8⟩ := day_mem g1
  have hlg := longZ_bd l.y l.mo
  intro n hn
  simp only [txt, dig4, dig2, List.cons_append, List.nil_append, List.append_assoc, List.mem_cons, List.not_mem_nil, or_false] at hn
  omega
theorem text_is {l : Lab} {s : ByteArray} (hs : s.size = 19) : sEq (bytesOf (textZ l)) s = true ↔ rightZ l = true ∧ txt l = numsOf s := by
  rw [sEq_iff]
  unfold textZ
  cases hr : rightZ l with
  | false =>
    refine ⟨fun h => ?_, fun h => by simp at h⟩
    have := congrArg ByteArray.size h
    rw [hs] at this
    cases this
  | true =>
    simp only [if_true, true_and]
    constructor
    · intro h; rw [← h, nums_bytesOf (txt_bytes hr)]
    · intro h; rw [h, bytesOf_nums]
theorem list19 {ns : List Int} (h : ns.length = 19) : ∃ a0 a1 a2 a3 a4 a5 a6 a7 a8 a9 a10 a11 a12 a13 a14 a15 a16 a17 a18, ns = [a0, a1, a2, a3, a4, a5, a6, a7, a8, a9, a10, a11, a12, a13, a14, a15, a16, a17, a18] := by
  rcases ns with _ | ⟨a0, _ | ⟨a1, _ | ⟨a2, _ | ⟨a3, _ | ⟨a4, _ | ⟨a5, _ | ⟨a6, _ | ⟨a7, _ | ⟨a8, _ | ⟨a9, _ | ⟨a10, _ | ⟨a11, _ | ⟨a12, _ | ⟨a13, _ | ⟨a14, _ | ⟨a15, _ | ⟨a16, _ | ⟨a17, _ | ⟨a18, _ | ⟨a19, r⟩⟩⟩⟩⟩⟩⟩⟩⟩⟩⟩⟩⟩⟩⟩⟩⟩⟩⟩⟩ <;> simp at h
  exact ⟨a0, a1, a2, a3, a4, a5, a6, a7, a8, a9, a10, a11, a12, a13, a14, a15, a16, a17, a18, rfl⟩
def readD (ns : List Int) : Lab := ⟨numD (piece ns 0 4), numD (piece ns 5 7), numD (piece ns 8 10), numD (piece ns 11 13), numD (piece ns 14 16), numD (piece ns 17 19)⟩
theorem read_plain {s : ByteArray} (hs : s.size = 19) : sEq (bytesOf (textZ (readL (numsOf s)))) s = (rightZ (readD (numsOf s)) && (sAt s 4 == 45) && (sAt s 7 == 45) && (sAt s 10 == 84) && (sAt s 13 == 58) && (sAt s 16 == 58)) ∧
    (sEq (bytesOf (textZ (readL (numsOf s)))) s = true → readD (numsOf s) = readL (numsOf s)) := by
  obtain ⟨a0, a1, a2, a3, a4, a5, a6, a7, a8, a9, a10, a11, a12, a13, a14, a15, a16, a17, a18, hn⟩ := list19 (ns := numsOf s) (by rw [nums_len, hs])
  have key := text_is (l := readL (numsOf s)) hs
  simp only [sAt_nums]
  generalize sEq (bytesOf (textZ (readL (numsOf s)))) s = q at key ⊢
  rw [hn] at key ⊢
  have pL : readL [a0, a1, a2, a3, a4, a5, a6, a7, a8, a9, a10, a11, a12, a13, a14, a15, a16, a17, a18] = ⟨numF 0 [a0, a1, a2, a3], numF 0 [a5, a6], numF 0 [a8, a9], numF 0 [a11, a12], numF 0 [a14, a15], numF 0 [a17, a18]⟩ := rfl
  have pD : readD [a0, a1, a2, a3, a4, a5, a6, a7, a8, a9, a10, a11, a12, a13, a14, a15, a16, a17, a18] = ⟨numD [a0, a1, a2, a3], numD [a5, a6], numD [a8, a9], numD [a11, a12], numD [a14, a15], numD [a17, a18]⟩ := rfl
  rw [pL] at key ⊢
  rw [pD]
  have fwd : q = true → rightZ ⟨numF 0 [a0, a1, a2, a3], numF 0 [a5, a6], numF 0 [a8, a9], numF 0 [a11, a12], numF 0 [a14, a15], numF 0 [a17, a18]⟩ = true ∧ a4 = 45 ∧ a7 = 45 ∧ a10 = 84 ∧ a13 = 58 ∧ a16 = 58 ∧
      numD [a0, a1, a2, a3] = numF 0 [a0, a1, a2, a3] ∧ numD [a5, a6] = numF 0 [a5, a6] ∧ numD [a8, a9] = numF 0 [a8, a9] ∧ numD [a11, a12] = numF 0 [a11, a12] ∧ numD [a14, a15] = numF 0 [a14, a15] ∧ numD [a17, a18] = numF 0 [a17, a18] := by
    intro hq
    obtain ⟨hr, ht⟩ := key.1 hq
    obtain ⟨g1, g2, g3, g4, g5, g6, g7, _⟩ := right_mem hr
    obtain ⟨d1, d2, d3, d4, d5, d6, d7, d8⟩ := day_mem g1
    have hlg := longZ_bd (numF 0 [a0, a1, a2, a3]) (numF 0 [a5, a6])
    simp only at g1 g2 g3 g4 g5 g6 g7 d1 d2 d3 d4 d5 d6
    refine ⟨hr, ?_⟩
    simp only [txt] at ht
    generalize numF 0 [a0, a1, a2, a3] = y at *
    generalize numF 0 [a5, a6] = mo at *
    generalize numF 0 [a8, a9] = dd at *
    generalize numF 0 [a11, a12] = hh at *
    generalize numF 0 [a14, a15] = mi at *
    generalize numF 0 [a17, a18] = ss at *
    simp only [dig4, dig2, List.cons_append, List.nil_append, List.append_assoc, List.cons.injEq, and_true] at ht
    refine ⟨by omega, by omega, by omega, by omega, by omega, d4_to (by omega) (by omega) ?_, d2_to (by omega) (by omega) ?_, d2_to (by omega) (by omega) ?_, d2_to (by omega) (by omega) ?_, d2_to (by omega) (by omega) ?_, d2_to (by omega) (by omega) ?_⟩ <;>
      simp only [dig4, dig2, List.cons.injEq, and_true] <;> omega
  refine ⟨?_, fun hq => ?_⟩
  · rw [Bool.eq_iff_iff]
    simp only [List.getD_cons_zero, List.getD_cons_succ, Bool.and_eq_true, beq_iff_eq]
    constructor
    · intro hq
      obtain ⟨e0, e1, e2, e3, e4, e5, e6, e7, e8, e9, e10, e11⟩ := fwd hq
      rw [e6, e7, e8, e9, e10, e11]
      exact ⟨⟨⟨⟨⟨e0, e1⟩, e2⟩, e3⟩, e4⟩, e5⟩
    · rintro ⟨⟨⟨⟨⟨hr, e1⟩, e2⟩, e3⟩, e4⟩, e5⟩
      obtain ⟨g1, g2, g3, g4, g5, g6, g7, _⟩ := right_mem hr
      obtain ⟨d1, d2, d3, d4, d5, d6, d7, d8⟩ := day_mem g1
      simp only at g2 g3 g4 g5 g6 g7 d1 d2 d3 d4 d5 d6
      obtain ⟨f0, t0⟩ := d4_of (a := a0) (b := a1) (c := a2) (d := a3) (by omega)
      obtain ⟨f1, t1⟩ := d2_of (a := a5) (b := a6) (by omega)
      obtain ⟨f2, t2⟩ := d2_of (a := a8) (b := a9) (by omega)
      obtain ⟨f3, t3⟩ := d2_of (a := a11) (b := a12) (by omega)
      obtain ⟨f4, t4⟩ := d2_of (a := a14) (b := a15) (by omega)
      obtain ⟨f5, t5⟩ := d2_of (a := a17) (b := a18) (by omega)
      refine key.2 ⟨by rw [← f0, ← f1, ← f2, ← f3, ← f4, ← f5]; exact hr, ?_⟩
      rw [← f0, ← f1, ← f2, ← f3, ← f4, ← f5]
      simp only [txt, t0, t1, t2, t3, t4, t5, e1, e2, e3, e4, e5]
      rfl
  · obtain ⟨_, _, _, _, _, _, e6, e7, e8, e9, e10, e11⟩ := fwd hq
    rw [e6, e7, e8, e9, e10, e11]
abbrev rrdG : List (Nat × Rx.Spec) := [(36, numS), (25, rightS)]
theorem rrdG_ok : GammaOK P rrdG := .cons num_ok (.cons refRight_ok (.nil P))
theorem refRead_ok : SpecOK P 30 readS := by
  refine specOK_fast rrdG_ok hm (Λ := loopsOf []) Tryd.func30 (by kernel_rfl) (LoopsOK.nil (by kernel_rfl)) ?_
  intro args bs r h
  unfold readS at h
  split at h
  · rename_i s
    rw [denI, denLf, denLf] at h
    rw [show (fFn P (specsOf rrdG) (loopsOf []) Tryd.f30 [.str s] []).denN = Tree.denN (Tree.ite ((↑s.size : Int) != 19) (Tree.leaf { v := V.tup [V.agg [V.int IntKind.i64 0, V.int IntKind.i64 0, V.int IntKind.i64 0, V.int IntKind.i64 0, V.int IntKind.i64 0, V.int IntKind.i64 0], V.fls], upd := [], new := [] }) (Tree.ite (true && decide (4 ≤ (↑s.size : Int))) (Tree.ite (decide ((s.extract 0 4).size ≤ 4)) (Tree.ite (true && decide (7 ≤ (↑s.size : Int))) (Tree.ite (decide ((s.extract 5 7).size ≤ 4)) (Tree.ite (true && decide (10 ≤ (↑s.size : Int))) (Tree.ite (decide ((s.extract 8 10).size ≤ 4)) (Tree.ite (true && decide (13 ≤ (↑s.size : Int))) (Tree.ite (decide ((s.extract 11 13).size ≤ 4)) (Tree.ite (true && decide (16 ≤ (↑s.size : Int))) (Tree.ite (decide ((s.extract 14 16).size ≤ 4)) (Tree.ite (true && decide (19 ≤ (↑s.size : Int))) (Tree.ite (decide ((s.extract 17 19).size ≤ 4)) (Tree.ite (!rightZ { y := numD (numsOf (s.extract 0 4)), mo := numD (numsOf (s.extract 5 7)), d := numD (numsOf (s.extract 8 10)), h := numD (numsOf (s.extract 11 13)), mi := numD (numsOf (s.extract 14 16)), s := numD (numsOf (s.extract 17 19)) }) (Tree.leaf { v := V.tup [V.agg [V.int IntKind.i64 0, V.int IntKind.i64 0, V.int IntKind.i64 0, V.int IntKind.i64 0, V.int IntKind.i64 0, V.int IntKind.i64 0], V.fls], upd := [], new := [] }) (Tree.ite (true && decide (4 < (↑s.size : Int))) (Tree.ite (sAt s 4 != 45) (Tree.leaf { v := V.tup [V.agg [V.int IntKind.i64 0, V.int IntKind.i64 0, V.int IntKind.i64 0, V.int IntKind.i64 0, V.int IntKind.i64 0, V.int IntKind.i64 0], V.fls], upd := [], new := [] }) (Tree.ite (true && decide (7 < (↑s.size : Int))) (Tree.ite (sAt s 7 != 45) (Tree.leaf { v := V.tup [V.agg [V.int IntKind.i64 0, V.int IntKind.i64 0, V.int IntKind.i64 0, V.int IntKind.i64 0, V.int IntKind.i64 0, V.int IntKind.i64 0], V.fls], upd := [], new := [] }) (Tree.ite (true && decide (10 < (↑s.size : Int))) (Tree.ite (sAt s 10 != 84) (Tree.leaf { v := V.tup [V.agg [V.int IntKind.i64 0, V.int IntKind.i64 0, V.int IntKind.i64 0, V.int IntKind.i64 0, V.int IntKind.i64 0, V.int IntKind.i64 0], V.fls], upd := [], new := [] }) (Tree.ite (true && decide (13 < (↑s.size : Int))) (Tree.ite (sAt s 13 != 58) (Tree.leaf { v := V.tup [V.agg [V.int IntKind.i64 0, V.int IntKind.i64 0, V.int IntKind.i64 0, V.int IntKind.i64 0, V.int IntKind.i64 0, V.int IntKind.i64 0], V.fls], upd := [], new := [] }) (Tree.ite (true && decide (16 < (↑s.size : Int))) (Tree.ite (sAt s 16 != 58) (Tree.leaf { v := V.tup [V.agg [V.int IntKind.i64 0, V.int IntKind.i64 0, V.int IntKind.i64 0, V.int IntKind.i64 0, V.int IntKind.i64 0, V.int IntKind.i64 0], V.fls], upd := [], new := [] }) (Tree.leaf { v := V.tup [V.agg [V.int IntKind.i64 (numD (numsOf (s.extract 0 4))), V.int IntKind.i64 (numD (numsOf (s.extract 5 7))), V.int IntKind.i64 (numD (numsOf (s.extract 8 10))), V.int IntKind.i64 (numD (numsOf (s.extract 11 13))), V.int IntKind.i64 (numD (numsOf (s.extract 14 16))), V.int IntKind.i64 (numD (numsOf (s.extract 17 19)))], V.tru], upd := [], new := [] })) Tree.fail)) Tree.fail)) Tree.fail)) Tree.fail)) Tree.fail)) Tree.fail) Tree.fail) Tree.fail) Tree.fail) Tree.fail) Tree.fail) Tree.fail) Tree.fail) Tree.fail) Tree.fail) Tree.fail) Tree.fail)) from by kernel_rfl]
    simp only [denN_ite, denN_leaf, denN_fail]
    by_cases h1 : s.size = 19
    · obtain ⟨p1, p2⟩ := read_plain h1
      have e : readB s = sEq (bytesOf (textZ (readL (numsOf s)))) s := by unfold readB; rw [beq_iff_eq.2 h1]; rfl
      have pc (a b : Nat) (hab : a < b) (h4 : b ≤ a + 4) (hb : b ≤ 19) : decide ((s.extract a b).size ≤ 4) = true := by
        have : (numsOf (s.extract a b)).length = b - a := by rw [nums_extract]; simp [nums_len, h1]; omega
        rw [nums_len] at this
        simp only [decide_eq_true_eq]; omega
      rw [e] at h
      simp only [nums_extract]
      rw [show (⟨numD (((numsOf s).drop 0).take (4 - 0)), numD (((numsOf s).drop 5).take (7 - 5)), numD (((numsOf s).drop 8).take (10 - 8)), numD (((numsOf s).drop 11).take (13 - 11)), numD (((numsOf s).drop 14).take (16 - 14)), numD (((numsOf s).drop 17).take (19 - 17))⟩ : Lab) = readD (numsOf s) from rfl]
      rw [if_neg (by simp [h1]), h1, if_pos (by decide), if_pos (pc 0 4 (by decide) (by decide) (by decide)), if_pos (by decide), if_pos (pc 5 7 (by decide) (by decide) (by decide)), if_pos (by decide), if_pos (pc 8 10 (by decide) (by decide) (by decide)), if_pos (by decide), if_pos (pc 11 13 (by decide) (by decide) (by decide)), if_pos (by decide), if_pos (pc 14 16 (by decide) (by decide) (by decide)), if_pos (by decide), if_pos (pc 17 19 (by decide) (by decide) (by decide))]
      cases hq : sEq (bytesOf (textZ (readL (numsOf s)))) s with
      | true =>
        rw [hq, if_pos rfl] at h; cases h
        rw [hq] at p1
        have p1 := p1.symm
        simp only [Bool.and_eq_true, beq_iff_eq] at p1
        obtain ⟨⟨⟨⟨⟨hr, e1⟩, e2⟩, e3⟩, e4⟩, e5⟩ := p1
        have el := p2 hq
        rw [hr, e1, e2, e3, e4, e5, ← el]
        rfl
      | false =>
        rw [hq, if_neg (by decide)] at h; cases h
        rw [hq] at p1
        simp only [bne]
        generalize rightZ (readD (numsOf s)) = A at p1 ⊢
        generalize (sAt s 4 == 45) = B at p1 ⊢
        generalize (sAt s 7 == 45) = C at p1 ⊢
        generalize (sAt s 10 == 84) = D at p1 ⊢
        generalize (sAt s 13 == 58) = E at p1 ⊢
        cases A
        · rfl
        cases B
        · rfl
        cases C
        · rfl
        cases D
        · rfl
        cases E
        · rfl
        have hF : (sAt s 16 == 58) = false := by simpa using p1.symm
        simp only [hF]
        rfl
    · have e : readB s = false := by unfold readB; rw [beq_eq_false_iff_ne.2 h1]; rfl
      rw [e, if_neg (by decide)] at h; cases h
      rw [if_pos (by simp; omega)]
      rfl
  · simp [den_fail] at h
end Go.Proofs.YtioplplpiaalhaaDoor
