/- Layer 15: days, labels and texts, by the program and by the document. The conditions stand in the specifications. -/
import Derived.Test.YtioplplpiaalhaaDoorRxB
import Derived.Shelf.Strconv.Itoa3
import Derived.Test.YtioplplpiaalhaaDoorChecked
set_option linter.unusedSimpArgs false
set_option linter.unusedVariables false
set_option linter.unnecessarySimpa false
set_option linter.unusedSectionVars false
set_option maxRecDepth 100000
set_option linter.unusedSimpArgs false
set_option linter.unusedVariables false
namespace Go.Proofs.YtioplplpiaalhaaDoor
open Go.Shelf
def laysItoa_ren : Go.Shelf.Ren := ⟨fun | 171 => 35 | 243 => 38 | 246 => 39 | 283 => 40 | 284 => 41 | 285 => 42 | 286 => 43 | 129 => 45 | 317 => 44 | 318 => 46 | 319 => 47 | 320 => 48 | 337 => 49 | 338 => 50 | n => n, fun | 3 => 3 | 9 => 9 | 2 => 2 | 4 => 4 | 171 => 61 | 0 => 0 | 53 => 62 | 37 => 56 | 5 => 5 | 173 => 65 | 212 => 68 | 51 => 69 | 20 => 20 | 213 => 70 | 46 => 71 | 232 => 74 | 233 => 75 | n => n, fun | 17 => 0 | 18 => 1 | 19 => 2 | n => n⟩
theorem laysItoa : Go.Proofs.LaysM.n171 Tryd.prog laysItoa_ren := {
  mixed := by kernel_rfl
  f129 := Tryd.func45.trans (congrArg some (by kernel_rfl))
  f171 := Tryd.func35.trans (congrArg some (by kernel_rfl))
  f243 := Tryd.func38.trans (congrArg some (by kernel_rfl))
  f246 := Tryd.func39.trans (congrArg some (by kernel_rfl))
  f283 := Tryd.func40.trans (congrArg some (by kernel_rfl))
  f284 := Tryd.func41.trans (congrArg some (by kernel_rfl))
  f285 := Tryd.func42.trans (congrArg some (by kernel_rfl))
  f286 := Tryd.func43.trans (congrArg some (by kernel_rfl))
  f317 := Tryd.func44.trans (congrArg some (by kernel_rfl))
  f318 := Tryd.func46.trans (congrArg some (by kernel_rfl))
  f319 := Tryd.func47.trans (congrArg some (by kernel_rfl))
  f320 := Tryd.func48.trans (congrArg some (by kernel_rfl))
  f337 := Tryd.func49.trans (congrArg some (by kernel_rfl))
  f338 := Tryd.func50.trans (congrArg some (by kernel_rfl))
  t0 := Tryd.underlying0
  a0 := Tryd.isAgg0
  z0 := Tryd.sizeOf0
  v0 := Tryd.zeroValue0
  t2 := Tryd.underlying2
  a2 := Tryd.isAgg2
  z2 := Tryd.sizeOf2
  v2 := Tryd.zeroValue2
  t3 := Tryd.underlying3
  a3 := Tryd.isAgg3
  z3 := Tryd.sizeOf3
  v3 := Tryd.zeroValue3
  t4 := Tryd.underlying4
  a4 := Tryd.isAgg4
  z4 := Tryd.sizeOf4
  v4 := Tryd.zeroValue4
  t5 := Tryd.underlying5
  a5 := Tryd.isAgg5
  z5 := Tryd.sizeOf5
  v5 := Tryd.zeroValue5
  t9 := Tryd.underlying9
  a9 := Tryd.isAgg9
  z9 := Tryd.sizeOf9
  v9 := Tryd.zeroValue9
  t20 := Tryd.underlying20
  a20 := Tryd.isAgg20
  z20 := Tryd.sizeOf20
  v20 := Tryd.zeroValue20
  t37 := Tryd.underlying56
  a37 := Tryd.isAgg56
  z37 := Tryd.sizeOf56
  v37 := Tryd.zeroValue56
  t46 := Tryd.underlying71
  a46 := Tryd.isAgg71
  z46 := Tryd.sizeOf71
  v46 := Tryd.zeroValue71
  t51 := Tryd.underlying69
  a51 := Tryd.isAgg69
  z51 := Tryd.sizeOf69
  v51 := Tryd.zeroValue69
  t53 := Tryd.underlying62
  a53 := Tryd.isAgg62
  z53 := Tryd.sizeOf62
  v53 := Tryd.zeroValue62
  t171 := Tryd.underlying61
  a171 := Tryd.isAgg61
  z171 := Tryd.sizeOf61
  v171 := Tryd.zeroValue61
  t173 := Tryd.underlying65
  a173 := Tryd.isAgg65
  z173 := Tryd.sizeOf65
  v173 := Tryd.zeroValue65
  t212 := Tryd.underlying68
  a212 := Tryd.isAgg68
  z212 := Tryd.sizeOf68
  v212 := Tryd.zeroValue68
  t213 := Tryd.underlying70
  a213 := Tryd.isAgg70
  z213 := Tryd.sizeOf70
  t232 := Tryd.underlying74
  a232 := Tryd.isAgg74
  z232 := Tryd.sizeOf74
  v232 := Tryd.zeroValue74
  t233 := Tryd.underlying75
  a233 := Tryd.isAgg75
  z233 := Tryd.sizeOf75
  v233 := Tryd.zeroValue75
  g17 := by kernel_rfl
  g18 := by kernel_rfl
  g19 := by kernel_rfl
  i0 := by kernel_rfl
  i2 := by kernel_rfl
  i3 := by kernel_rfl
  i4 := by kernel_rfl
  i5 := by kernel_rfl
  i9 := by kernel_rfl
  i20 := by kernel_rfl
  i37 := by kernel_rfl
  i46 := by kernel_rfl
  i51 := by kernel_rfl
  i53 := by kernel_rfl
  i171 := by kernel_rfl
  i173 := by kernel_rfl
  i212 := by kernel_rfl
  i232 := by kernel_rfl
  i233 := by kernel_rfl
  m17 := by kernel_rfl
  m18 := by kernel_rfl
  m19 := by kernel_rfl }
open Go.RowKit Go.Sort Go.Lib in
/-- strconv.Itoa: "Itoa is equivalent to FormatInt(int64(i), 10).": i's DECIMAL NUMERAL ('Lib.itoa': a '-' where i is negative, then the digits), FOR EVERY int. The world behind the call: the world before it, new blocks behind the heap (the library's 'var a [24]byte'), draws. (LAID: no walk: one application.) -/
theorem itoa_calls (n : Int) (h0 : -9223372036854775808 ≤ n) (h1 : n ≤ 9223372036854775807) (w : World) (htab : Lib.TabIs Tryd.prog w "internal/strconv.uint64pow10" .u64 Lib.pow10Tab) :
    Calls Tryd.prog 35 #[.int .i64 n] w fun e w' => e = .returned (.string ⟨(Lib.itoa n).toArray⟩) ∧ ∃ k os, w' = grow (w.drewN k) os := Any.strconv_Itoa laysItoa n h0 h1 w htab
end Go.Proofs.YtioplplpiaalhaaDoor

namespace Go.Proofs.YtioplplpiaalhaaDoor
open Go.Rx
noncomputable abbrev P : Program := Tryd.prog
theorem hm : P.follows .mixedOrders = true := Tryd.checked.mixed

/-- The table of powers of ten is the third variable. -/
def powers (h : Nat → Option Obj) : Prop := (match h 0 with | some (.cells cs _ _) => some cs | _ => none) = some (Lib.pow10Tab.map fun z => Value.int .u64 z).toArray
noncomputable instance glob : Glob where
  N := 3
  G := powers
  loc := by
    intro h h' he hg
    unfold powers at hg ⊢
    rw [he 0 (by decide)]
    exact hg
theorem tab_of {ρ : Rho} {w : World} (h : WOK ρ w) : Lib.TabIs Tryd.prog w "internal/strconv.uint64pow10" .u64 Lib.pow10Tab := by
  unfold Lib.TabIs World.var?
  rw [show Tryd.prog.globalNamed "internal/strconv.uint64pow10" = some 0 by kernel_rfl]
  exact h.holds

/-- The decimal numeral. -/
def itoaS (n : Int) : ByteArray := ⟨(Lib.itoa n).toArray⟩
def itoS : Rx.Spec := fun a b => match a, b with
  | [.int .i64 n], [] => .need (decide (-9223372036854775808 ≤ n) && decide (n ≤ 9223372036854775807)) (.leaf ⟨.str (itoaS n), [], []⟩)
  | _, _ => .fail
theorem ito_ok : SpecOK P 35 itoS := by
  refine ⟨?_, _, Tryd.func35, by kernel_rfl, by kernel_rfl⟩
  intro args bs r hr ρ xs w hx hbs
  unfold itoS at hr
  split at hr
  · rename_i n
    rw [den_need, den_leaf] at hr
    obtain ⟨hn, rfl⟩ := hr
    simp only [Bool.and_eq_true, decide_eq_true_eq] at hn
    simp only [VsRel, VRel] at hx
    obtain ⟨y, ys, hxs, rfl, rfl⟩ := hx
    have hxs : xs = #[.int .i64 n] := by
      apply Array.ext'
      rw [hxs]
    subst hxs
    refine (itoa_calls n hn.1 hn.2 w (tab_of hbs.2.2.2)).mono ?_
    rintro e w' ⟨rfl, k, os, rfl⟩
    refine ⟨_, ρ, rfl, Le.refl _, fun b s hb => ?_, ?_, by simp, by simp, ⟨rfl, rfl, rfl, ?_, fun i hi _ => ?_⟩, fun j s hj => ?_, fun i j s t hi _ _ _ _ => ?_⟩
    · rw [hbs.2.2.1 b (by simp)] at hb; cases hb
    · simp only [VRel]; rfl
    · simp [Go.Sort.grow, World.drewN]
    · show (w.heap ++ os)[i]? = w.heap[i]?
      exact Array.getElem?_append_left hi
    · rw [hbs.2.2.1 _ (by simp)] at hj; cases hj
    · rw [hbs.2.2.1 _ (by simp)] at hi; cases hi
  · simp [den_fail] at hr
end Go.Proofs.YtioplplpiaalhaaDoor

set_option maxRecDepth 100000
set_option linter.unusedSimpArgs false
set_option linter.unusedVariables false
namespace Go.Proofs.YtioplplpiaalhaaDoor
open Go.Rx

def leapZ (y : Int) : Bool := (y % 4 == 0 && y % 100 != 0) || y % 400 == 0
theorem tmod_b (y k : Int) : (y.tmod k == 0) = (y % k == 0) := by
  rw [Bool.eq_iff_iff, beq_iff_eq, beq_iff_eq, ← Int.dvd_iff_tmod_eq_zero, Int.dvd_iff_emod_eq_zero]
theorem tmod_n (y k : Int) : (y.tmod k != 0) = (y % k != 0) := by
  have := tmod_b y k
  simp only [bne, this]
def leapS : Rx.Spec := fun a b => match a, b with
  | [.int .i64 y], [] => .leaf ⟨.bool (leapZ y), [], []⟩
  | _, _ => .fail
theorem leap_ok : SpecOK P 16 leapS := by
  refine specOK_fast (GammaOK.nil P) hm (Λ := loopsOf []) Tryd.func16 (by kernel_rfl) (LoopsOK.nil (by kernel_rfl)) ?_
  intro args bs r h
  unfold leapS at h
  split at h
  · rename_i y
    rw [den_leaf] at h; subst h
    rw [show (fFn P (specsOf []) (loopsOf []) Tryd.f16 [.int .i64 y] []).denN = Tree.denN (Tree.ite (y.tmod 4 == 0) (Tree.ite (y.tmod 100 != 0) (Tree.leaf { v := V.tru, upd := [], new := [] }) (Tree.leaf { v := V.bool (y.tmod 400 == 0), upd := [], new := [] })) (Tree.leaf { v := V.bool (y.tmod 400 == 0), upd := [], new := [] })) from by kernel_rfl]
    simp only [denN_ite, denN_leaf, denN_fail, tmod_b, tmod_n, nrmF, nrmT]
    unfold leapZ
    cases y % 4 == 0 <;> cases y % 100 != 0 <;> cases y % 400 == 0 <;> first | rfl | simp
  · simp [den_fail] at h
theorem refLeap_ok : SpecOK P 17 leapS := by
  refine specOK_fast (GammaOK.nil P) hm (Λ := loopsOf []) Tryd.func17 (by kernel_rfl) (LoopsOK.nil (by kernel_rfl)) ?_
  intro args bs r h
  unfold leapS at h
  split at h
  · rename_i y
    rw [den_leaf] at h; subst h
    rw [show (fFn P (specsOf []) (loopsOf []) Tryd.f17 [.int .i64 y] []).denN = Tree.denN (Tree.ite (y.tmod 400 == 0) (Tree.leaf { v := V.tru, upd := [], new := [] }) (Tree.ite (y.tmod 4 == 0) (Tree.leaf { v := V.bool (y.tmod 100 != 0), upd := [], new := [] }) (Tree.leaf { v := V.fls, upd := [], new := [] }))) from by kernel_rfl]
    simp only [denN_ite, denN_leaf, denN_fail, tmod_b, tmod_n, nrmF, nrmT]
    unfold leapZ
    cases y % 4 == 0 <;> cases y % 100 != 0 <;> cases y % 400 == 0 <;> first | rfl | simp
  · simp [den_fail] at h

def longZ (y m : Int) : Int := if m < 1 ∨ m > 12 then 0 else if m = 2 then (if leapZ y = true then 29 else 28) else if m = 4 ∨ m = 6 ∨ m = 9 ∨ m = 11 then 30 else 31
def longS : Rx.Spec := fun a b => match a, b with
  | [.int .i64 y, .int .i64 m], [] => .leaf ⟨.int .i64 (longZ y m), [], []⟩
  | _, _ => .fail
theorem lpG_ok : GammaOK P [(16, leapS)] := .cons leap_ok (.nil P)
theorem long_ok : SpecOK P 18 longS := by
  refine specOK_fast lpG_ok hm (Λ := loopsOf []) Tryd.func18 (by kernel_rfl) (LoopsOK.nil (by kernel_rfl)) ?_
  intro args bs r h
  unfold longS at h
  split at h
  · rename_i y m
    rw [den_leaf] at h; subst h
    rw [show (fFn P (specsOf [(16, leapS)]) (loopsOf []) Tryd.f18 [.int .i64 y, .int .i64 m] []).denN = Tree.denN (Tree.ite (decide (m < 1)) (Tree.leaf { v := V.int IntKind.i64 0, upd := [], new := [] }) (Tree.ite (decide (m > 12)) (Tree.leaf { v := V.int IntKind.i64 0, upd := [], new := [] }) (Tree.ite (m == 2) (Tree.ite (leapZ y) (Tree.leaf { v := V.int IntKind.i64 29, upd := [], new := [] }) (Tree.ite (decide (0 ≤ m) && decide (m < 13)) (Tree.ite (decide (m.toNat * 1 + 0 + 1 ≤ 13)) (Tree.leaf { v := V.int IntKind.i64 ([0, 31, 28, 31, 30, 31, 30, 31, 31, 30, 31, 30, 31].getD m.toNat 0), upd := [], new := [] }) Tree.fail) Tree.fail)) (Tree.ite (decide (0 ≤ m) && decide (m < 13)) (Tree.ite (decide (m.toNat * 1 + 0 + 1 ≤ 13)) (Tree.leaf { v := V.int IntKind.i64 ([0, 31, 28, 31, 30, 31, 30, 31, 31, 30, 31, 30, 31].getD m.toNat 0), upd := [], new := [] }) Tree.fail) Tree.fail)))) from by kernel_rfl]
    simp only [denN_ite, denN_leaf, denN_fail]
    by_cases h1 : m < 1
    · rw [if_pos (by simpa using h1)]; unfold longZ; rw [if_pos (.inl h1)]
    by_cases h2 : m > 12
    · rw [if_neg (by simpa using h1), if_pos (by simpa using h2)]; unfold longZ; rw [if_pos (.inr h2)]
    have : m = 1 ∨ m = 2 ∨ m = 3 ∨ m = 4 ∨ m = 5 ∨ m = 6 ∨ m = 7 ∨ m = 8 ∨ m = 9 ∨ m = 10 ∨ m = 11 ∨ m = 12 := by omega
    rcases this with rfl | rfl | rfl | rfl | rfl | rfl | rfl | rfl | rfl | rfl | rfl | rfl <;> unfold longZ <;> cases leapZ y <;> rfl
  · simp [den_fail] at h
theorem rlpG_ok : GammaOK P [(17, leapS)] := .cons refLeap_ok (.nil P)
theorem refLong_ok : SpecOK P 19 longS := by
  refine specOK_fast rlpG_ok hm (Λ := loopsOf []) Tryd.func19 (by kernel_rfl) (LoopsOK.nil (by kernel_rfl)) ?_
  intro args bs r h
  unfold longS at h
  split at h
  · rename_i y m
    rw [den_leaf] at h; subst h
    rw [show (fFn P (specsOf [(17, leapS)]) (loopsOf []) Tryd.f19 [.int .i64 y, .int .i64 m] []).denN = Tree.denN (Tree.ite (m == 1) (Tree.leaf { v := V.int IntKind.i64 31, upd := [], new := [] }) (Tree.ite (m == 3) (Tree.leaf { v := V.int IntKind.i64 31, upd := [], new := [] }) (Tree.ite (m == 5) (Tree.leaf { v := V.int IntKind.i64 31, upd := [], new := [] }) (Tree.ite (m == 7) (Tree.leaf { v := V.int IntKind.i64 31, upd := [], new := [] }) (Tree.ite (m == 8) (Tree.leaf { v := V.int IntKind.i64 31, upd := [], new := [] }) (Tree.ite (m == 10) (Tree.leaf { v := V.int IntKind.i64 31, upd := [], new := [] }) (Tree.ite (m == 12) (Tree.leaf { v := V.int IntKind.i64 31, upd := [], new := [] }) (Tree.ite (m == 4) (Tree.leaf { v := V.int IntKind.i64 30, upd := [], new := [] }) (Tree.ite (m == 6) (Tree.leaf { v := V.int IntKind.i64 30, upd := [], new := [] }) (Tree.ite (m == 9) (Tree.leaf { v := V.int IntKind.i64 30, upd := [], new := [] }) (Tree.ite (m == 11) (Tree.leaf { v := V.int IntKind.i64 30, upd := [], new := [] }) (Tree.ite (m == 2) (Tree.ite (leapZ y) (Tree.leaf { v := V.int IntKind.i64 29, upd := [], new := [] }) (Tree.leaf { v := V.int IntKind.i64 28, upd := [], new := [] })) (Tree.leaf { v := V.int IntKind.i64 0, upd := [], new := [] }))))))))))))) from by kernel_rfl]
    simp only [denN_ite, denN_leaf, denN_fail]
    by_cases h0 : m < 1 ∨ m > 12
    · have e (k : Int) (h1 : 1 ≤ k) (h2 : k ≤ 12) : ¬ (m == k) = true := by simp only [beq_iff_eq]; omega
      rw [if_neg (e 1 (by decide) (by decide)), if_neg (e 3 (by decide) (by decide)), if_neg (e 5 (by decide) (by decide)), if_neg (e 7 (by decide) (by decide)), if_neg (e 8 (by decide) (by decide)), if_neg (e 10 (by decide) (by decide)), if_neg (e 12 (by decide) (by decide)), if_neg (e 4 (by decide) (by decide)), if_neg (e 6 (by decide) (by decide)), if_neg (e 9 (by decide) (by decide)), if_neg (e 11 (by decide) (by decide)), if_neg (e 2 (by decide) (by decide))]
      unfold longZ; rw [if_pos h0]
    have : m = 1 ∨ m = 2 ∨ m = 3 ∨ m = 4 ∨ m = 5 ∨ m = 6 ∨ m = 7 ∨ m = 8 ∨ m = 9 ∨ m = 10 ∨ m = 11 ∨ m = 12 := by omega
    rcases this with rfl | rfl | rfl | rfl | rfl | rfl | rfl | rfl | rfl | rfl | rfl | rfl <;> unfold longZ <;> cases leapZ y <;> rfl
  · simp [den_fail] at h
def yearlyZ (y : Int) : Int := if leapZ y = true then 366 else 365
def yearlyS : Rx.Spec := fun a b => match a, b with
  | [.int .i64 y], [] => .leaf ⟨.int .i64 (yearlyZ y), [], []⟩
  | _, _ => .fail
theorem yearly_ok : SpecOK P 33 yearlyS := by
  refine specOK_fast rlpG_ok hm (Λ := loopsOf []) Tryd.func33 (by kernel_rfl) (LoopsOK.nil (by kernel_rfl)) ?_
  intro args bs r h
  unfold yearlyS at h
  split at h
  · rename_i y
    rw [den_leaf] at h; subst h
    rw [show (fFn P (specsOf [(17, leapS)]) (loopsOf []) Tryd.f33 [.int .i64 y] []).denN = Tree.denN (Tree.ite (leapZ y) (Tree.leaf { v := V.int IntKind.i64 366, upd := [], new := [] }) (Tree.leaf { v := V.int IntKind.i64 365, upd := [], new := [] })) from by kernel_rfl]
    simp only [denN_ite, denN_leaf, denN_fail]
    unfold yearlyZ
    cases leapZ y <;> rfl
  · simp [den_fail] at h
def aheadZ (y : Int) : Int := 365 * (y - 1970) + ((y - 1) / 4 - (y - 1) / 100 + (y - 1) / 400) - 477
def aheadS : Rx.Spec := fun a b => match a, b with
  | [.int .i64 y], [] => .need (decide (1 ≤ y) && decide (y ≤ 100000)) (.leaf ⟨.int .i64 (aheadZ y), [], []⟩)
  | _, _ => .fail
theorem ahead_ok : SpecOK P 32 aheadS := by
  refine specOK_fast (GammaOK.nil P) hm (Λ := loopsOf []) Tryd.func32 (by kernel_rfl) (LoopsOK.nil (by kernel_rfl)) ?_
  intro args bs r h
  unfold aheadS at h
  split at h
  · rename_i y
    rw [den_need, den_leaf] at h
    obtain ⟨hy, rfl⟩ := h
    simp only [Bool.and_eq_true, decide_eq_true_eq] at hy
    rw [show (fFn P (specsOf []) (loopsOf []) Tryd.f32 [.int .i64 y] []).denN = Tree.denN (Tree.leaf { v := V.int IntKind.i64 (IntKind.i64.wrap (IntKind.i64.wrap (IntKind.i64.wrap (365 * IntKind.i64.wrap (y - 1970)) + IntKind.i64.wrap (IntKind.i64.wrap (IntKind.i64.wrap ((IntKind.i64.wrap (y - 1)).tdiv 4) - IntKind.i64.wrap ((IntKind.i64.wrap (y - 1)).tdiv 100)) + IntKind.i64.wrap ((IntKind.i64.wrap (y - 1)).tdiv 400))) - 477)), upd := [], new := [] }) from by kernel_rfl]
    simp only [denN_ite, denN_leaf, denN_fail]
    simp (disch := omega) only [wrap64_id, Int.tdiv_eq_ediv_of_nonneg]
    rfl
  · simp [den_fail] at h
end Go.Proofs.YtioplplpiaalhaaDoor

set_option maxRecDepth 100000
set_option linter.unusedSimpArgs false
set_option linter.unusedVariables false
namespace Go.Proofs.YtioplplpiaalhaaDoor
open Go.Rx

theorem longZ_bd (y m : Int) : 0 ≤ longZ y m ∧ longZ y m ≤ 31 := by
  unfold longZ; split
  · omega
  · split
    · split <;> omega
    · split <;> omega
/-- The days of the months from the one before a number on, downwards. -/
def mdN (y : Int) : Nat → Int
  | 0 => 0
  | k + 1 => mdN y k + longZ y ((k : Int) + 1)
/-- The days of a year ahead of a month. -/
def mdZ (y m : Int) : Int := mdN y (m - 1).toNat
theorem mdN_bd (y : Int) : ∀ k : Nat, 0 ≤ mdN y k ∧ mdN y k ≤ 31 * k
  | 0 => by simp [mdN]
  | k + 1 => by have := mdN_bd y k; have := longZ_bd y ((k : Int) + 1); simp only [mdN]; omega
theorem mdZ_succ (y m : Int) (h : 1 ≤ m) : mdZ y (m + 1) = mdZ y m + longZ y m := by
  unfold mdZ
  rw [show (m + 1 - 1).toNat = (m - 1).toNat + 1 by omega]
  simp only [mdN]
  rw [show (((m - 1).toNat : Nat) : Int) + 1 = m by omega]
theorem mdZ_one (y : Int) : mdZ y 1 = 0 := rfl
def dayB (y m d : Int) : Bool := decide (1970 ≤ y) && decide (y ≤ 9999) && decide (1 ≤ d) && decide (d ≤ longZ y m)
def dayZ (y m d : Int) : Int := aheadZ y + mdZ y m + d - 1
def dayS : Rx.Spec := fun a b => match a, b with
  | [.int .i64 y, .int .i64 m, .int .i64 d], [] => .ite (dayB y m d) (.leaf ⟨.tup [.int .i64 (dayZ y m d), .bool true], [], []⟩) (.leaf ⟨.tup [.int .i64 0, .bool false], [], []⟩)
  | _, _ => .fail
theorem ahead_bd (y : Int) (h0 : 1970 ≤ y) (h1 : y ≤ 10000) : 0 ≤ aheadZ y ∧ aheadZ y ≤ 2932897 := by unfold aheadZ; omega

/-! ### The program's loop over the months -/
def dlF (vals : List V) (bs : List Blk) : Tree LRes := match vals, bs with
  | [.int .i64 y, .int .i64 m, .int .i64 n, .int .i64 k], [] =>
    .need (decide (0 ≤ n) && decide (n ≤ 10000000) && decide (1 ≤ k) && decide (k ≤ m) && decide (m ≤ 12)) (.leaf ⟨.exit 0, [.int .i64 (n + mdZ y m - mdZ y k)], [], []⟩)
  | _, _ => .fail
def dlL : LSpec := ⟨43, [0, 1, 8, 9], [8], dlF⟩
theorem lgG_ok : GammaOK P [(18, longS)] := .cons long_ok (.nil P)
theorem dl_rounds (y m : Int) (hm : m ≤ 12) : ∀ (j : Nat) (n k : Int), 0 ≤ n → n ≤ 10000000 + 31 * (k - 1) → 1 ≤ k → k + j = m →
    (loopN P (specsOf [(18, longS)]) (loopsOf []) 43 [0, 1, 8, 9] [8] (loopAt Tryd.f11 0) (j + 1) [.int .i64 y, .int .i64 m, .int .i64 n, .int .i64 k] []).den = some ⟨.exit 0, [.int .i64 (n + mdZ y m - mdZ y k)], [], []⟩ := by
  have round : ∀ (y m n k : Int), (evRound P (specsOf [(18, longS)]) (loopsOf []) 43 [0, 1, 8, 9] [8] (loopAt Tryd.f11 0) [.int .i64 y, .int .i64 m, .int .i64 n, .int .i64 k] []).den = Tree.den (Tree.ite (decide (k < m)) (Tree.leaf { e := Ex.nrm, vs := [V.int IntKind.i64 y, V.int IntKind.i64 m, V.int IntKind.i64 (IntKind.i64.wrap (n + longZ y k)), V.int IntKind.i64 (IntKind.i64.wrap (k + 1))], upd := [], new := [] }) (Tree.leaf { e := Ex.exit 0, vs := [V.int IntKind.i64 n], upd := [], new := [] })) := by
    intro y m n k
    kernel_rfl
  intro j
  induction j with
  | zero =>
    intro n k h0 h1 h2 h3
    refine loopN_end ?_ (by simp)
    rw [round, show decide (k < m) = false by simp; omega]
    simp only [Tree.den]
    rw [show k = m by omega, show n + mdZ y m - mdZ y m = n by omega]
  | succ j ih =>
    intro n k h0 h1 h2 h3
    have hr := round y m n k
    have hb := longZ_bd y k
    rw [show decide (k < m) = true by simp; omega, wrap64_id (n := k + 1) (by omega) (by omega), wrap64_id (n := n + longZ y k) (by omega) (by omega)] at hr
    simp only [Tree.den] at hr
    have ih' := ih (n + longZ y k) (k + 1) (by omega) (by omega) (by omega) (by omega)
    refine loopN_step hr rfl (vals' := [.int .i64 y, .int .i64 m, .int .i64 (n + longZ y k), .int .i64 (k + 1)]) (bs' := []) (by kernel_rfl) (by kernel_rfl) (by kernel_rfl) ih' ?_
    rw [mdZ_succ y k h2, show n + longZ y k + mdZ y m - (mdZ y k + longZ y k) = n + mdZ y m - mdZ y k by omega]
    kernel_rfl
theorem dl_loop : LoopOK P (loopAt Tryd.f11 0) dlL := by
  refine loop_ok lgG_ok Go.Proofs.YtioplplpiaalhaaDoor.hm (Λ := loopsOf []) (LoopsOK.nil (by kernel_rfl)) _ ?_
  intro vals bs r h
  simp only [dlL, dlF] at h
  split at h
  · rename_i y m n k
    rw [den_need, den_leaf] at h
    simp only [Bool.and_eq_true, decide_eq_true_eq] at h
    obtain ⟨⟨⟨⟨⟨h1, h2⟩, h3⟩, h4⟩, h5⟩, rfl⟩ := h
    refine ⟨(m - k).toNat + 1, ?_⟩
    exact dl_rounds y m h5 (m - k).toNat n k h1 (by omega) h3 (by omega)
  · simp [den_fail] at h
abbrev dyG : List (Nat × Rx.Spec) := [(18, longS), (32, aheadS)]
theorem dyG_ok : GammaOK P dyG := .cons long_ok (.cons ahead_ok (.nil P))
theorem day_ok : SpecOK P 11 dayS := by
  refine specOK_fast dyG_ok hm (Λ := loopsOf [(5, dlL)]) Tryd.func11 (by kernel_rfl) (LoopsOK.one (by kernel_rfl) dl_loop) ?_
  intro args bs r h
  unfold dayS at h
  split at h
  · rename_i y m d
    rw [show (fFn P (specsOf dyG) (loopsOf [(5, dlL)]) Tryd.f11 [.int .i64 y, .int .i64 m, .int .i64 d] []).denN = Tree.denN (Tree.ite (decide (y < 1970)) (Tree.leaf { v := V.tup [V.int IntKind.i64 0, V.fls], upd := [], new := [] }) (Tree.ite (decide (y > 9999)) (Tree.leaf { v := V.tup [V.int IntKind.i64 0, V.fls], upd := [], new := [] }) (Tree.ite (decide (d < 1)) (Tree.leaf { v := V.tup [V.int IntKind.i64 0, V.fls], upd := [], new := [] }) (Tree.ite (decide (d > longZ y m)) (Tree.leaf { v := V.tup [V.int IntKind.i64 0, V.fls], upd := [], new := [] }) (Tree.ite (decide (1 ≤ y) && decide (y ≤ 100000)) (Tree.ite (decide (0 ≤ IntKind.i64.wrap (IntKind.i64.wrap (aheadZ y + d) - 1)) && decide (IntKind.i64.wrap (IntKind.i64.wrap (aheadZ y + d) - 1) ≤ 10000000) && true && decide (1 ≤ m) && decide (m ≤ 12)) (Tree.leaf { v := V.tup [V.int IntKind.i64 (IntKind.i64.wrap (IntKind.i64.wrap (aheadZ y + d) - 1) + mdZ y m - mdZ y 1), V.tru], upd := [], new := [] }) Tree.fail) Tree.fail))))) from by kernel_rfl]
    simp only [denN_ite, denN_leaf, denN_fail]
    rw [denI, denLf, denLf] at h
    by_cases h1 : y < 1970
    · have e : dayB y m d = false := by simp [dayB]; omega
      rw [e, if_neg (by decide)] at h; cases h
      rw [if_pos (by simpa using h1)]; rfl
    by_cases h2 : y > 9999
    · have e : dayB y m d = false := by simp [dayB]; omega
      rw [e, if_neg (by decide)] at h; cases h
      rw [if_neg (by simpa using h1), if_pos (by simpa using h2)]; rfl
    by_cases h3 : d < 1
    · have e : dayB y m d = false := by simp [dayB]; omega
      rw [e, if_neg (by decide)] at h; cases h
      rw [if_neg (by simpa using h1), if_neg (by simpa using h2), if_pos (by simpa using h3)]; rfl
    by_cases h4 : d > longZ y m
    · have e : dayB y m d = false := by simp [dayB]; omega
      rw [e, if_neg (by decide)] at h; cases h
      rw [if_neg (by simpa using h1), if_neg (by simpa using h2), if_neg (by simpa using h3), if_pos (by simpa using h4)]; rfl
    have e : dayB y m d = true := by simp [dayB]; omega
    rw [e, if_pos rfl] at h; cases h
    have hmm : 1 ≤ m ∧ m ≤ 12 := by
      by_cases hc : m < 1 ∨ m > 12
      · unfold longZ at h4; rw [if_pos hc] at h4; omega
      · omega
    have ha := ahead_bd y (by omega) (by omega)
    have hl := longZ_bd y m
    have w1 : IntKind.i64.wrap (aheadZ y + d) = aheadZ y + d := wrap64_id (by omega) (by omega)
    have w2 : IntKind.i64.wrap (aheadZ y + d - 1) = aheadZ y + d - 1 := wrap64_id (by omega) (by omega)
    rw [w1, w2, if_neg (by simpa using h1), if_neg (by simpa using h2), if_neg (by simpa using h3), if_neg (by simpa using h4), if_pos (by simp; omega), if_pos (by simp; omega), mdZ_one]
    have e2 : aheadZ y + d - 1 + mdZ y m - 0 = dayZ y m d := by unfold dayZ; omega
    rw [e2]; rfl
  · simp [den_fail] at h

/-! ### The reference's loops -/
theorem ahead_step (y : Int) (h : 1 ≤ y) : aheadZ (y + 1) = aheadZ y + yearlyZ y := by
  unfold aheadZ yearlyZ leapZ
  split
  · rename_i h; simp at h; omega
  · rename_i h; simp at h; omega
theorem yearly_bd (y : Int) : 365 ≤ yearlyZ y ∧ yearlyZ y ≤ 366 := by unfold yearlyZ; split <;> omega
def rylF (vals : List V) (bs : List Blk) : Tree LRes := match vals, bs with
  | [.int .i64 y, .int .i64 m, .int .i64 d, .int .i64 n, .int .i64 k], [] =>
    .need (decide (n = aheadZ k) && decide (1970 ≤ k) && decide (k ≤ y) && decide (y ≤ 9999)) (.leaf ⟨.exit 0, [.int .i64 (aheadZ y)], [], []⟩)
  | _, _ => .fail
def rylL : LSpec := ⟨59, [0, 1, 2, 8, 9], [8], rylF⟩
theorem ryG_ok : GammaOK P [(33, yearlyS)] := .cons yearly_ok (.nil P)
theorem ryl_rounds (y m d : Int) (hm : y ≤ 9999) : ∀ (j : Nat) (k : Int), 1970 ≤ k → k + j = y →
    (loopN P (specsOf [(33, yearlyS)]) (loopsOf []) 59 [0, 1, 2, 8, 9] [8] (loopAt Tryd.f12 0) (j + 1) [.int .i64 y, .int .i64 m, .int .i64 d, .int .i64 (aheadZ k), .int .i64 k] []).den = some ⟨.exit 0, [.int .i64 (aheadZ y)], [], []⟩ := by
  have round : ∀ (y m d n k : Int), (evRound P (specsOf [(33, yearlyS)]) (loopsOf []) 59 [0, 1, 2, 8, 9] [8] (loopAt Tryd.f12 0) [.int .i64 y, .int .i64 m, .int .i64 d, .int .i64 n, .int .i64 k] []).den = Tree.den (Tree.ite (decide (k < y)) (Tree.leaf { e := Ex.nrm, vs := [V.int IntKind.i64 y, V.int IntKind.i64 m, V.int IntKind.i64 d, V.int IntKind.i64 (IntKind.i64.wrap (n + yearlyZ k)), V.int IntKind.i64 (IntKind.i64.wrap (k + 1))], upd := [], new := [] }) (Tree.leaf { e := Ex.exit 0, vs := [V.int IntKind.i64 n], upd := [], new := [] })) := by
    intro y m d n k
    kernel_rfl
  intro j
  induction j with
  | zero =>
    intro k h2 h3
    refine loopN_end ?_ (by simp)
    rw [round, show decide (k < y) = false by simp; omega]
    simp only [Tree.den]
    rw [show k = y by omega]
  | succ j ih =>
    intro k h2 h3
    have hr := round y m d (aheadZ k) k
    have hb := yearly_bd k
    have ha := ahead_bd k (by omega) (by omega)
    rw [show decide (k < y) = true by simp; omega, wrap64_id (n := k + 1) (by omega) (by omega), wrap64_id (n := aheadZ k + yearlyZ k) (by omega) (by omega), ← ahead_step k (by omega)] at hr
    simp only [Tree.den] at hr
    have ih' := ih (k + 1) (by omega) (by omega)
    refine loopN_step hr rfl (vals' := [.int .i64 y, .int .i64 m, .int .i64 d, .int .i64 (aheadZ (k + 1)), .int .i64 (k + 1)]) (bs' := []) (by kernel_rfl) (by kernel_rfl) (by kernel_rfl) ih' ?_
    kernel_rfl
theorem ryl_loop : LoopOK P (loopAt Tryd.f12 0) rylL := by
  refine loop_ok ryG_ok Go.Proofs.YtioplplpiaalhaaDoor.hm (Λ := loopsOf []) (LoopsOK.nil (by kernel_rfl)) _ ?_
  intro vals bs r h
  simp only [rylL, rylF] at h
  split at h
  · rename_i y m d n k
    rw [den_need, den_leaf] at h
    simp only [Bool.and_eq_true, decide_eq_true_eq] at h
    obtain ⟨⟨⟨⟨h1, h2⟩, h3⟩, h4⟩, rfl⟩ := h
    subst h1
    refine ⟨(y - k).toNat + 1, ?_⟩
    exact ryl_rounds y m d h4 (y - k).toNat k h2 (by omega)
  · simp [den_fail] at h
def rmlF (vals : List V) (bs : List Blk) : Tree LRes := match vals, bs with
  | [.int .i64 y, .int .i64 m, .int .i64 d, .int .i64 n, .int .i64 k], [] =>
    .need (decide (0 ≤ n) && decide (n ≤ 10000000) && decide (1 ≤ k) && decide (k ≤ m) && decide (m ≤ 12)) (.leaf ⟨.exit 2, [.int .i64 (n + mdZ y m - mdZ y k)], [], []⟩)
  | _, _ => .fail
def rmlL : LSpec := ⟨59, [0, 1, 2, 8, 10], [8], rmlF⟩
theorem rlgG_ok : GammaOK P [(19, longS)] := .cons refLong_ok (.nil P)
theorem rml_rounds (y m d : Int) (hm : m ≤ 12) : ∀ (j : Nat) (n k : Int), 0 ≤ n → n ≤ 10000000 + 31 * (k - 1) → 1 ≤ k → k + j = m →
    (loopN P (specsOf [(19, longS)]) (loopsOf []) 59 [0, 1, 2, 8, 10] [8] (loopAt Tryd.f12 1) (j + 1) [.int .i64 y, .int .i64 m, .int .i64 d, .int .i64 n, .int .i64 k] []).den = some ⟨.exit 2, [.int .i64 (n + mdZ y m - mdZ y k)], [], []⟩ := by
  have round : ∀ (y m d n k : Int), (evRound P (specsOf [(19, longS)]) (loopsOf []) 59 [0, 1, 2, 8, 10] [8] (loopAt Tryd.f12 1) [.int .i64 y, .int .i64 m, .int .i64 d, .int .i64 n, .int .i64 k] []).den = Tree.den (Tree.ite (decide (k < m)) (Tree.leaf { e := Ex.nrm, vs := [V.int IntKind.i64 y, V.int IntKind.i64 m, V.int IntKind.i64 d, V.int IntKind.i64 (IntKind.i64.wrap (n + longZ y k)), V.int IntKind.i64 (IntKind.i64.wrap (k + 1))], upd := [], new := [] }) (Tree.leaf { e := Ex.exit 2, vs := [V.int IntKind.i64 n], upd := [], new := [] })) := by
    intro y m d n k
    kernel_rfl
  intro j
  induction j with
  | zero =>
    intro n k h0 h1 h2 h3
    refine loopN_end ?_ (by simp)
    rw [round, show decide (k < m) = false by simp; omega]
    simp only [Tree.den]
    rw [show k = m by omega, show n + mdZ y m - mdZ y m = n by omega]
  | succ j ih =>
    intro n k h0 h1 h2 h3
    have hr := round y m d n k
    have hb := longZ_bd y k
    rw [show decide (k < m) = true by simp; omega, wrap64_id (n := k + 1) (by omega) (by omega), wrap64_id (n := n + longZ y k) (by omega) (by omega)] at hr
    simp only [Tree.den] at hr
    have ih' := ih (n + longZ y k) (k + 1) (by omega) (by omega) (by omega) (by omega)
    refine loopN_step hr rfl (vals' := [.int .i64 y, .int .i64 m, .int .i64 d, .int .i64 (n + longZ y k), .int .i64 (k + 1)]) (bs' := []) (by kernel_rfl) (by kernel_rfl) (by kernel_rfl) ih' ?_
    rw [mdZ_succ y k h2, show n + longZ y k + mdZ y m - (mdZ y k + longZ y k) = n + mdZ y m - mdZ y k by omega]
    kernel_rfl
theorem rml_loop : LoopOK P (loopAt Tryd.f12 1) rmlL := by
  refine loop_ok rlgG_ok Go.Proofs.YtioplplpiaalhaaDoor.hm (Λ := loopsOf []) (LoopsOK.nil (by kernel_rfl)) _ ?_
  intro vals bs r h
  simp only [rmlL, rmlF] at h
  split at h
  · rename_i y m d n k
    rw [den_need, den_leaf] at h
    simp only [Bool.and_eq_true, decide_eq_true_eq] at h
    obtain ⟨⟨⟨⟨⟨h1, h2⟩, h3⟩, h4⟩, h5⟩, rfl⟩ := h
    refine ⟨(m - k).toNat + 1, ?_⟩
    exact rml_rounds y m d h5 (m - k).toNat n k h1 (by omega) h3 (by omega)
  · simp [den_fail] at h
theorem refDay_ok : SpecOK P 12 dayS := by
  refine specOK_fast rlgG_ok hm (Λ := loopsOf [(5, rylL), (9, rmlL)]) Tryd.func12 (by kernel_rfl) (LoopsOK.two (by kernel_rfl) (by kernel_rfl) ryl_loop rml_loop) ?_
  intro args bs r h
  unfold dayS at h
  split at h
  · rename_i y m d
    rw [show (fFn P (specsOf [(19, longS)]) (loopsOf [(5, rylL), (9, rmlL)]) Tryd.f12 [.int .i64 y, .int .i64 m, .int .i64 d] []).denN = Tree.denN (Tree.ite (decide (y < 1970)) (Tree.leaf { v := V.tup [V.int IntKind.i64 0, V.fls], upd := [], new := [] }) (Tree.ite (decide (y > 9999)) (Tree.leaf { v := V.tup [V.int IntKind.i64 0, V.fls], upd := [], new := [] }) (Tree.ite (decide (m < 1)) (Tree.leaf { v := V.tup [V.int IntKind.i64 0, V.fls], upd := [], new := [] }) (Tree.ite (decide (m > 12)) (Tree.leaf { v := V.tup [V.int IntKind.i64 0, V.fls], upd := [], new := [] }) (Tree.ite (decide (d < 1)) (Tree.leaf { v := V.tup [V.int IntKind.i64 0, V.fls], upd := [], new := [] }) (Tree.ite (decide (d > longZ y m)) (Tree.leaf { v := V.tup [V.int IntKind.i64 0, V.fls], upd := [], new := [] }) (Tree.ite (true && decide (1970 ≤ y) && decide (y ≤ 9999)) (Tree.ite (decide (0 ≤ aheadZ y) && decide (aheadZ y ≤ 10000000) && true && decide (1 ≤ m) && decide (m ≤ 12)) (Tree.leaf { v := V.tup [V.int IntKind.i64 (IntKind.i64.wrap (IntKind.i64.wrap (aheadZ y + mdZ y m - mdZ y 1 + d) - 1)), V.tru], upd := [], new := [] }) Tree.fail) Tree.fail))))))) from by kernel_rfl]
    simp only [denN_ite, denN_leaf, denN_fail]
    rw [denI, denLf, denLf] at h
    by_cases h1 : y < 1970
    · have e : dayB y m d = false := by simp [dayB]; omega
      rw [e, if_neg (by decide)] at h; cases h
      rw [if_pos (by simpa using h1)]; rfl
    by_cases h2 : y > 9999
    · have e : dayB y m d = false := by simp [dayB]; omega
      rw [e, if_neg (by decide)] at h; cases h
      rw [if_neg (by simpa using h1), if_pos (by simpa using h2)]; rfl
    have hz (hc : m < 1 ∨ m > 12) : longZ y m = 0 := by unfold longZ; rw [if_pos hc]
    by_cases h5 : m < 1
    · have e : dayB y m d = false := by simp [dayB]; rw [hz (.inl h5)]; omega
      rw [e, if_neg (by decide)] at h; cases h
      rw [if_neg (by simpa using h1), if_neg (by simpa using h2), if_pos (by simpa using h5)]; rfl
    by_cases h6 : m > 12
    · have e : dayB y m d = false := by simp [dayB]; rw [hz (.inr h6)]; omega
      rw [e, if_neg (by decide)] at h; cases h
      rw [if_neg (by simpa using h1), if_neg (by simpa using h2), if_neg (by simpa using h5), if_pos (by simpa using h6)]; rfl
    by_cases h3 : d < 1
    · have e : dayB y m d = false := by simp [dayB]; omega
      rw [e, if_neg (by decide)] at h; cases h
      rw [if_neg (by simpa using h1), if_neg (by simpa using h2), if_neg (by simpa using h5), if_neg (by simpa using h6), if_pos (by simpa using h3)]; rfl
    by_cases h4 : d > longZ y m
    · have e : dayB y m d = false := by simp [dayB]; omega
      rw [e, if_neg (by decide)] at h; cases h
      rw [if_neg (by simpa using h1), if_neg (by simpa using h2), if_neg (by simpa using h5), if_neg (by simpa using h6), if_neg (by simpa using h3), if_pos (by simpa using h4)]; rfl
    have e : dayB y m d = true := by simp [dayB]; omega
    rw [e, if_pos rfl] at h; cases h
    have ha := ahead_bd y (by omega) (by omega)
    have hl := longZ_bd y m
    have hb := mdN_bd y (m - 1).toNat
    rw [show mdN y (m - 1).toNat = mdZ y m from rfl] at hb
    have w1 : IntKind.i64.wrap (aheadZ y + mdZ y m - 0 + d) = aheadZ y + mdZ y m - 0 + d := wrap64_id (by omega) (by omega)
    have w2 : IntKind.i64.wrap (aheadZ y + mdZ y m - 0 + d - 1) = aheadZ y + mdZ y m - 0 + d - 1 := wrap64_id (by omega) (by omega)
    rw [if_neg (by simpa using h1), if_neg (by simpa using h2), if_neg (by simpa using h5), if_neg (by simpa using h6), if_neg (by simpa using h3), if_neg (by simpa using h4), if_pos (by simp; omega), if_pos (by simp; omega), mdZ_one, w1, w2]
    have e2 : aheadZ y + mdZ y m - 0 + d - 1 = dayZ y m d := by unfold dayZ; omega
    rw [e2]; rfl
  · simp [den_fail] at h
end Go.Proofs.YtioplplpiaalhaaDoor

set_option maxRecDepth 100000
set_option linter.unusedSimpArgs false
set_option linter.unusedVariables false
namespace Go.Proofs.YtioplplpiaalhaaDoor
open Go.Rx

def yGo (n : Int) : Nat → Int → Int
  | 0, y => y
  | k + 1, y => if n < aheadZ (y + 1) then y else yGo n k (y + 1)
def yearZ (n : Int) : Int := yGo n 8030 1970
def mGo (y r : Int) : Nat → Int → Int
  | 0, m => m
  | k + 1, m => if r < mdZ y (m + 1) then m else mGo y r k (m + 1)
def monthZ (y r : Int) : Int := mGo y r 11 1
theorem ahead_mono {y z : Int} (h : y < z) : aheadZ (y + 1) ≤ aheadZ z := by unfold aheadZ; omega
theorem year_uniq {n y z : Int} (h1 : aheadZ y ≤ n) (h2 : n < aheadZ (y + 1)) (h3 : aheadZ z ≤ n) (h4 : n < aheadZ (z + 1)) : y = z := by
  rcases Int.lt_trichotomy y z with h | h | h
  · have := ahead_mono h; omega
  · exact h
  · have := ahead_mono h; omega
theorem yGo_spec (n : Int) : ∀ (k : Nat) (y : Int), aheadZ y ≤ n → n < aheadZ (y + k + 1) → aheadZ (yGo n k y) ≤ n ∧ n < aheadZ (yGo n k y + 1) ∧ y ≤ yGo n k y ∧ yGo n k y ≤ y + k
  | 0, y, h1, h2 => by simp only [yGo]; exact ⟨h1, by simpa using h2, by omega, by omega⟩
  | k + 1, y, h1, h2 => by
    simp only [yGo]
    split
    · rename_i h; exact ⟨h1, h, by omega, by omega⟩
    · rename_i h
      have := yGo_spec n k (y + 1) (by omega) (by rw [show y + 1 + (k : Int) + 1 = y + ((k + 1 : Nat) : Int) + 1 by omega]; exact h2)
      omega
theorem year_spec {n : Int} (h0 : 0 ≤ n) (h1 : n < 2932897) : aheadZ (yearZ n) ≤ n ∧ n < aheadZ (yearZ n + 1) ∧ 1970 ≤ yearZ n ∧ yearZ n ≤ 9999 := by
  have := yGo_spec n 8029 1970 (by unfold aheadZ; omega) (by unfold aheadZ; omega)
  have e : yearZ n = yGo n 8029 1970 := by
    have h2 := yGo_spec n 8030 1970 (by unfold aheadZ; omega) (by unfold aheadZ; omega)
    exact year_uniq h2.1 h2.2.1 this.1 this.2.1
  rw [e]; omega
theorem md_mono (y : Int) {m k : Int} (h0 : 1 ≤ m) (h : m < k) : mdZ y (m + 1) ≤ mdZ y k := by
  have key : ∀ (j : Nat), mdZ y (m + 1) ≤ mdZ y (m + 1 + j) := by
    intro j
    induction j with
    | zero => simp
    | succ j ih =>
      have := mdZ_succ y (m + 1 + j) (by omega)
      have := longZ_bd y (m + 1 + j)
      rw [show m + 1 + ((j + 1 : Nat) : Int) = m + 1 + j + 1 by omega]
      omega
  have := key (k - m - 1).toNat
  rwa [show m + 1 + ((k - m - 1).toNat : Int) = k by omega] at this
theorem month_uniq {y r m k : Int} (hm : 1 ≤ m) (hk : 1 ≤ k) (h1 : mdZ y m ≤ r) (h2 : r < mdZ y (m + 1)) (h3 : mdZ y k ≤ r) (h4 : r < mdZ y (k + 1)) : m = k := by
  rcases Int.lt_trichotomy m k with h | h | h
  · have := md_mono y hm h; omega
  · exact h
  · have := md_mono y hk h; omega
theorem md_year (y : Int) : mdZ y 13 = yearlyZ y := by
  show mdN y 12 = yearlyZ y
  unfold yearlyZ
  simp only [mdN, longZ]
  cases leapZ y <;> decide
theorem mGo_spec (y r : Int) : ∀ (k : Nat) (m : Int), 1 ≤ m → mdZ y m ≤ r → r < mdZ y (m + k + 1) → mdZ y (mGo y r k m) ≤ r ∧ r < mdZ y (mGo y r k m + 1) ∧ m ≤ mGo y r k m ∧ mGo y r k m ≤ m + k
  | 0, m, _, h1, h2 => by simp only [mGo]; exact ⟨h1, by simpa using h2, by omega, by omega⟩
  | k + 1, m, h0, h1, h2 => by
    simp only [mGo]
    split
    · rename_i h; exact ⟨h1, h, by omega, by omega⟩
    · rename_i h
      have := mGo_spec y r k (m + 1) (by omega) (by omega) (by rw [show m + 1 + (k : Int) + 1 = m + ((k + 1 : Nat) : Int) + 1 by omega]; exact h2)
      omega
theorem month_spec {y r : Int} (h0 : 0 ≤ r) (h1 : r < yearlyZ y) : mdZ y (monthZ y r) ≤ r ∧ r < mdZ y (monthZ y r + 1) ∧ 1 ≤ monthZ y r ∧ monthZ y r ≤ 12 := by
  have := mGo_spec y r 11 1 (by decide) (by rw [mdZ_one]; exact h0) (by show r < mdZ y 13; rw [md_year]; exact h1)
  unfold monthZ; omega

def dateB (n : Int) : Bool := decide (0 ≤ n) && decide (n < 2932897)
def dYear (n : Int) : Int := yearZ n
def dMonth (n : Int) : Int := monthZ (yearZ n) (n - aheadZ (yearZ n))
def dDay (n : Int) : Int := n - aheadZ (yearZ n) - mdZ (yearZ n) (dMonth n) + 1
theorem date_spec {n : Int} (h0 : 0 ≤ n) (h1 : n < 2932897) : 1970 ≤ dYear n ∧ dYear n ≤ 9999 ∧ 1 ≤ dMonth n ∧ dMonth n ≤ 12 ∧ 1 ≤ dDay n ∧ dDay n ≤ longZ (dYear n) (dMonth n) ∧ dayZ (dYear n) (dMonth n) (dDay n) = n := by
  obtain ⟨a1, a2, a3, a4⟩ := year_spec h0 h1
  rw [ahead_step _ (by omega)] at a2
  obtain ⟨b1, b2, b3, b4⟩ := month_spec (y := yearZ n) (r := n - aheadZ (yearZ n)) (by omega) (by omega)
  rw [mdZ_succ _ _ b3] at b2
  unfold dayZ dYear dDay dMonth
  omega

/-! ### The program's loops -/
abbrev ahG : List (Nat × Rx.Spec) := [(32, aheadS)]
theorem ahG_ok : GammaOK P ahG := .cons ahead_ok (.nil P)
def pyF (vals : List V) (bs : List Blk) : Tree LRes := match vals, bs with
  | [.int .i64 n, .int .i64 y], [] =>
    .need (decide (1970 ≤ y) && decide (aheadZ y ≤ n) && decide (n < 2932897)) (.leaf ⟨.exit 0, [.int .i64 (yearZ n)], [], []⟩)
  | _, _ => .fail
def pyL : LSpec := ⟨43, [0, 2], [2], pyF⟩
theorem py_rounds (n : Int) (h0 : 0 ≤ n) (h1 : n < 2932897) : ∀ (j : Nat) (y : Int), 1970 ≤ y → aheadZ y ≤ n → y + j = yearZ n →
    (loopN P (specsOf ahG) (loopsOf []) 43 [0, 2] [2] (loopAt Tryd.f13 0) (j + 1) [.int .i64 n, .int .i64 y] []).den = some ⟨.exit 0, [.int .i64 (yearZ n)], [], []⟩ := by
  have round : ∀ (n y : Int), (evRound P (specsOf ahG) (loopsOf []) 43 [0, 2] [2] (loopAt Tryd.f13 0) [.int .i64 n, .int .i64 y] []).den = Tree.den (Tree.ite (decide (1 ≤ IntKind.i64.wrap (y + 1)) && decide (IntKind.i64.wrap (y + 1) ≤ 100000)) (Tree.ite (decide (n < aheadZ (IntKind.i64.wrap (y + 1)))) (Tree.leaf { e := Ex.exit 0, vs := [V.int IntKind.i64 y], upd := [], new := [] }) (Tree.leaf { e := Ex.nrm, vs := [V.int IntKind.i64 n, V.int IntKind.i64 (IntKind.i64.wrap (y + 1))], upd := [], new := [] })) Tree.fail) := by
    intro n y
    kernel_rfl
  obtain ⟨a1, a2, a3, a4⟩ := year_spec h0 h1
  intro j
  induction j with
  | zero =>
    intro y hy hy2 hj
    have ey : y = yearZ n := by omega
    refine loopN_end ?_ (by simp)
    rw [round, wrap64_id (n := y + 1) (by omega) (by omega), show (decide (1 ≤ y + 1) && decide (y + 1 ≤ 100000)) = true by simp; omega, show decide (n < aheadZ (y + 1)) = true by rw [ey]; simpa using a2]
    simp only [Tree.den]
    rw [ey]
  | succ j ih =>
    intro y hy hy2 hj
    have hr := round n y
    have hm2 := ahead_mono (y := y) (z := yearZ n) (by omega)
    rw [wrap64_id (n := y + 1) (by omega) (by omega), show (decide (1 ≤ y + 1) && decide (y + 1 ≤ 100000)) = true by simp; omega, show decide (n < aheadZ (y + 1)) = false by simp; omega] at hr
    simp only [Tree.den] at hr
    have ih' := ih (y + 1) (by omega) (by omega) (by omega)
    exact loopN_step hr rfl (vals' := [.int .i64 n, .int .i64 (y + 1)]) (bs' := []) (by kernel_rfl) (by kernel_rfl) (by kernel_rfl) ih' (by kernel_rfl)
theorem py_loop : LoopOK P (loopAt Tryd.f13 0) pyL := by
  refine loop_ok ahG_ok Go.Proofs.YtioplplpiaalhaaDoor.hm (Λ := loopsOf []) (LoopsOK.nil (by kernel_rfl)) _ ?_
  intro vals bs r h
  simp only [pyL, pyF] at h
  split at h
  · rename_i n y
    rw [den_need, den_leaf] at h
    simp only [Bool.and_eq_true, decide_eq_true_eq] at h
    obtain ⟨⟨⟨h1, h2⟩, h3⟩, rfl⟩ := h
    have h0 : 0 ≤ n := by have : 0 ≤ aheadZ y := by unfold aheadZ; omega
                          omega
    obtain ⟨a1, a2, a3, a4⟩ := year_spec h0 h3
    have : y ≤ yearZ n := by
      by_cases hc : y ≤ yearZ n
      · exact hc
      · have := ahead_mono (y := yearZ n) (z := y) (by omega); omega
    refine ⟨(yearZ n - y).toNat + 1, ?_⟩
    exact py_rounds n h0 h3 (yearZ n - y).toNat y h1 h2 (by omega)
  · simp [den_fail] at h
def pmF (vals : List V) (bs : List Blk) : Tree LRes := match vals, bs with
  | [.int .i64 r, .int .i64 y, .int .i64 m], [] =>
    .need (decide (m = 1) && decide (0 ≤ r) && decide (r < yearlyZ y)) (.leaf ⟨.exit 2, [.int .i64 (r - mdZ y (monthZ y r)), .int .i64 (monthZ y r)], [], []⟩)
  | _, _ => .fail
def pmL : LSpec := ⟨43, [0, 2, 3], [0, 3], pmF⟩
theorem pm_rounds (y r0 : Int) (h0 : 0 ≤ r0) (h1 : r0 < yearlyZ y) : ∀ (j : Nat) (m : Int), 1 ≤ m → mdZ y m ≤ r0 → m + j = monthZ y r0 →
    (loopN P (specsOf [(18, longS)]) (loopsOf []) 43 [0, 2, 3] [0, 3] (loopAt Tryd.f13 1) (j + 1) [.int .i64 (r0 - mdZ y m), .int .i64 y, .int .i64 m] []).den = some ⟨.exit 2, [.int .i64 (r0 - mdZ y (monthZ y r0)), .int .i64 (monthZ y r0)], [], []⟩ := by
  have round : ∀ (r y m : Int), (evRound P (specsOf [(18, longS)]) (loopsOf []) 43 [0, 2, 3] [0, 3] (loopAt Tryd.f13 1) [.int .i64 r, .int .i64 y, .int .i64 m] []).den = Tree.den (Tree.ite (decide (r < longZ y m)) (Tree.leaf { e := Ex.exit 2, vs := [V.int IntKind.i64 r, V.int IntKind.i64 m], upd := [], new := [] }) (Tree.leaf { e := Ex.nrm, vs := [V.int IntKind.i64 (IntKind.i64.wrap (r - longZ y m)), V.int IntKind.i64 y, V.int IntKind.i64 (IntKind.i64.wrap (m + 1))], upd := [], new := [] })) := by
    intro r y m
    kernel_rfl
  obtain ⟨a1, a2, a3, a4⟩ := month_spec h0 h1
  have hyb := yearly_bd y
  intro j
  induction j with
  | zero =>
    intro m hm hm2 hj
    have em : m = monthZ y r0 := by omega
    refine loopN_end ?_ (by simp)
    rw [mdZ_succ y _ (by omega), ← em] at a2
    rw [round, show decide (r0 - mdZ y m < longZ y m) = true by simp; omega]
    simp only [Tree.den]
    rw [em]
  | succ j ih =>
    intro m hm hm2 hj
    have hr := round (r0 - mdZ y m) y m
    have hm3 := md_mono y (m := m) (k := monthZ y r0) hm (by omega)
    have hb := mdN_bd y (m - 1).toNat
    rw [show mdN y (m - 1).toNat = mdZ y m from rfl] at hb
    have hl := longZ_bd y m
    have hms := mdZ_succ y m hm
    rw [wrap64_id (n := m + 1) (by omega) (by omega), show decide (r0 - mdZ y m < longZ y m) = false by simp; omega, show r0 - mdZ y m - longZ y m = r0 - mdZ y (m + 1) by omega, wrap64_id (n := r0 - mdZ y (m + 1)) (by omega) (by omega)] at hr
    simp only [Tree.den] at hr
    have ih' := ih (m + 1) (by omega) (by omega) (by omega)
    exact loopN_step hr rfl (vals' := [.int .i64 (r0 - mdZ y (m + 1)), .int .i64 y, .int .i64 (m + 1)]) (bs' := []) (by kernel_rfl) (by kernel_rfl) (by kernel_rfl) ih' (by kernel_rfl)
theorem pm_loop : LoopOK P (loopAt Tryd.f13 1) pmL := by
  refine loop_ok lgG_ok Go.Proofs.YtioplplpiaalhaaDoor.hm (Λ := loopsOf []) (LoopsOK.nil (by kernel_rfl)) _ ?_
  intro vals bs r h
  simp only [pmL, pmF] at h
  split at h
  · rename_i r y m
    rw [den_need, den_leaf] at h
    simp only [Bool.and_eq_true, decide_eq_true_eq] at h
    obtain ⟨⟨⟨rfl, h2⟩, h3⟩, rfl⟩ := h
    obtain ⟨a1, a2, a3, a4⟩ := month_spec h2 h3
    refine ⟨(monthZ y r - 1).toNat + 1, ?_⟩
    have := pm_rounds y r h2 h3 (monthZ y r - 1).toNat 1 (by omega) (by rw [mdZ_one]; exact h2) (by omega)
    rw [mdZ_one, Int.sub_zero] at this
    exact this
  · simp [den_fail] at h
def dateS : Rx.Spec := fun a b => match a, b with
  | [.int .i64 n], [] => .ite (dateB n) (.leaf ⟨.tup [.int .i64 (dYear n), .int .i64 (dMonth n), .int .i64 (dDay n), .bool true], [], []⟩) (.leaf ⟨.tup [.int .i64 0, .int .i64 0, .int .i64 0, .bool false], [], []⟩)
  | _, _ => .fail
theorem date_ok : SpecOK P 13 dateS := by
  refine specOK_fast ahG_ok hm (Λ := loopsOf [(4, pyL), (8, pmL)]) Tryd.func13 (by kernel_rfl) (LoopsOK.two (by kernel_rfl) (by kernel_rfl) py_loop pm_loop) ?_
  intro args bs r h
  unfold dateS at h
  split at h
  · rename_i n
    rw [show (fFn P (specsOf ahG) (loopsOf [(4, pyL), (8, pmL)]) Tryd.f13 [.int .i64 n] []).denN = Tree.denN (Tree.ite (decide (n < 0)) (Tree.leaf { v := V.tup [V.int IntKind.i64 0, V.int IntKind.i64 0, V.int IntKind.i64 0, V.fls], upd := [], new := [] }) (Tree.ite (decide (n ≥ 2932897)) (Tree.leaf { v := V.tup [V.int IntKind.i64 0, V.int IntKind.i64 0, V.int IntKind.i64 0, V.fls], upd := [], new := [] }) (Tree.ite (decide (1970 ≤ IntKind.i64.wrap (1970 + IntKind.i64.wrap (n.tdiv 366))) && decide (aheadZ (IntKind.i64.wrap (1970 + IntKind.i64.wrap (n.tdiv 366))) ≤ n) && decide (n < 2932897)) (Tree.ite (decide (1 ≤ yearZ n) && decide (yearZ n ≤ 100000)) (Tree.ite (true && decide (0 ≤ IntKind.i64.wrap (n - aheadZ (yearZ n))) && decide (IntKind.i64.wrap (n - aheadZ (yearZ n)) < yearlyZ (yearZ n))) (Tree.leaf { v := V.tup [V.int IntKind.i64 (yearZ n), V.int IntKind.i64 (monthZ (yearZ n) (IntKind.i64.wrap (n - aheadZ (yearZ n)))), V.int IntKind.i64 (IntKind.i64.wrap (IntKind.i64.wrap (n - aheadZ (yearZ n)) - mdZ (yearZ n) (monthZ (yearZ n) (IntKind.i64.wrap (n - aheadZ (yearZ n)))) + 1)), V.tru], upd := [], new := [] }) Tree.fail) Tree.fail) Tree.fail))) from by kernel_rfl]
    simp only [denN_ite, denN_leaf, denN_fail]
    rw [denI, denLf, denLf] at h
    by_cases h1 : n < 0
    · have e : dateB n = false := by simp [dateB]; omega
      rw [e, if_neg (by decide)] at h; cases h
      rw [if_pos (by simpa using h1)]; rfl
    by_cases h2 : n ≥ 2932897
    · have e : dateB n = false := by simp [dateB]; omega
      rw [e, if_neg (by decide)] at h; cases h
      rw [if_neg (by simpa using h1), if_pos (by simpa using h2)]; rfl
    have e : dateB n = true := by simp [dateB]; omega
    rw [e, if_pos rfl] at h; cases h
    obtain ⟨a1, a2, a3, a4⟩ := year_spec (n := n) (by omega) (by omega)
    rw [ahead_step _ (by omega)] at a2
    obtain ⟨b1, b2, b3, b4⟩ := month_spec (y := yearZ n) (r := n - aheadZ (yearZ n)) (by omega) (by omega)
    have hyb := yearly_bd (yearZ n)
    have hb := mdN_bd (yearZ n) (monthZ (yearZ n) (n - aheadZ (yearZ n)) - 1).toNat
    rw [show mdN (yearZ n) (monthZ (yearZ n) (n - aheadZ (yearZ n)) - 1).toNat = mdZ (yearZ n) (monthZ (yearZ n) (n - aheadZ (yearZ n))) from rfl] at hb
    have q : n.tdiv 366 = n / 366 := Int.tdiv_eq_ediv_of_nonneg (by omega)
    have w1 : IntKind.i64.wrap (n / 366) = n / 366 := wrap64_id (by omega) (by omega)
    have w2 : IntKind.i64.wrap (1970 + n / 366) = 1970 + n / 366 := wrap64_id (by omega) (by omega)
    have w3 : IntKind.i64.wrap (n - aheadZ (yearZ n)) = n - aheadZ (yearZ n) := wrap64_id (by omega) (by omega)
    have w4 : IntKind.i64.wrap (n - aheadZ (yearZ n) - mdZ (yearZ n) (monthZ (yearZ n) (n - aheadZ (yearZ n))) + 1) = n - aheadZ (yearZ n) - mdZ (yearZ n) (monthZ (yearZ n) (n - aheadZ (yearZ n))) + 1 := wrap64_id (by omega) (by omega)
    have ha : aheadZ (1970 + n / 366) ≤ n := by unfold aheadZ; omega
    rw [q, w1, w2, w3, w4, if_neg (by simpa using h1), if_neg (by simpa using h2), if_pos (by simp; omega), if_pos (by simp; omega), if_pos (by simp; omega)]
    rfl
  · simp [den_fail] at h

/-! ### The reference's loops -/
def labOf (n : Int) : Lab := ⟨dYear n, dMonth n, dDay n, 0, 0, 0⟩
def rnF (vals : List V) (bs : List Blk) : Tree LRes := match vals, bs with
  | [.int .i64 r, .ptr 0 0 0 0, .int .i64 y, .int .i64 m], [.cells [.int .i64 a, .int .i64 b, .int .i64 c, .int .i64 d, .int .i64 e, .int .i64 f]] =>
    .need (decide (m = 1) && decide (0 ≤ r) && decide (r < yearlyZ y)) (.leaf ⟨.exit 2, [.int .i64 (r - mdZ y (monthZ y r)), .int .i64 (monthZ y r)], [none], []⟩)
  | _, _ => .fail
def rnL : LSpec := ⟨39, [0, 2, 4, 5], [0, 5], rnF⟩
theorem rn_rounds (y r0 : Int) (L : Lab) (h0 : 0 ≤ r0) (h1 : r0 < yearlyZ y) : ∀ (j : Nat) (m : Int), 1 ≤ m → mdZ y m ≤ r0 → m + j = monthZ y r0 →
    (loopN P (specsOf [(19, longS)]) (loopsOf []) 39 [0, 2, 4, 5] [0, 5] (loopAt Tryd.f14 1) (j + 1) [.int .i64 (r0 - mdZ y m), .ptr 0 0 0 0, .int .i64 y, .int .i64 m] [.cells L.vs]).den = some ⟨.exit 2, [.int .i64 (r0 - mdZ y (monthZ y r0)), .int .i64 (monthZ y r0)], [none], []⟩ := by
  have round : ∀ (r y m : Int) (L : Lab), (evRound P (specsOf [(19, longS)]) (loopsOf []) 39 [0, 2, 4, 5] [0, 5] (loopAt Tryd.f14 1) [.int .i64 r, .ptr 0 0 0 0, .int .i64 y, .int .i64 m] [.cells L.vs]).den = Tree.den (Tree.ite (decide (r ≥ longZ y m)) (Tree.leaf { e := Ex.nrm, vs := [V.int IntKind.i64 (IntKind.i64.wrap (r - longZ y m)), V.ptr 0 0 0 0, V.int IntKind.i64 y, V.int IntKind.i64 (IntKind.i64.wrap (m + 1))], upd := [none], new := [] }) (Tree.leaf { e := Ex.exit 2, vs := [V.int IntKind.i64 r, V.int IntKind.i64 m], upd := [none], new := [] })) := by
    intro r y m L
    kernel_rfl
  obtain ⟨a1, a2, a3, a4⟩ := month_spec h0 h1
  have hyb := yearly_bd y
  intro j
  induction j with
  | zero =>
    intro m hm hm2 hj
    have em : m = monthZ y r0 := by omega
    refine loopN_end ?_ (by simp)
    rw [mdZ_succ y _ (by omega), ← em] at a2
    rw [round, show decide (r0 - mdZ y m ≥ longZ y m) = false by simp; omega]
    simp only [Tree.den]
    rw [em]
  | succ j ih =>
    intro m hm hm2 hj
    have hr := round (r0 - mdZ y m) y m L
    have hm3 := md_mono y (m := m) (k := monthZ y r0) hm (by omega)
    have hb := mdN_bd y (m - 1).toNat
    rw [show mdN y (m - 1).toNat = mdZ y m from rfl] at hb
    have hl := longZ_bd y m
    have hms := mdZ_succ y m hm
    rw [wrap64_id (n := m + 1) (by omega) (by omega), show decide (r0 - mdZ y m ≥ longZ y m) = true by simp; omega, show r0 - mdZ y m - longZ y m = r0 - mdZ y (m + 1) by omega, wrap64_id (n := r0 - mdZ y (m + 1)) (by omega) (by omega)] at hr
    simp only [Tree.den] at hr
    have ih' := ih (m + 1) (by omega) (by omega) (by omega)
    exact loopN_step hr rfl (vals' := [.int .i64 (r0 - mdZ y (m + 1)), .ptr 0 0 0 0, .int .i64 y, .int .i64 (m + 1)]) (bs' := [.cells L.vs]) (by kernel_rfl) (by kernel_rfl) (by kernel_rfl) ih' (by kernel_rfl)
theorem rn_loop : LoopOK P (loopAt Tryd.f14 1) rnL := by
  refine loop_ok rlgG_ok Go.Proofs.YtioplplpiaalhaaDoor.hm (Λ := loopsOf []) (LoopsOK.nil (by kernel_rfl)) _ ?_
  intro vals bs r h
  simp only [rnL, rnF] at h
  split at h
  · rename_i r y m a b c d e f
    rw [den_need, den_leaf] at h
    simp only [Bool.and_eq_true, decide_eq_true_eq] at h
    obtain ⟨⟨⟨rfl, h2⟩, h3⟩, rfl⟩ := h
    obtain ⟨a1, a2, a3, a4⟩ := month_spec h2 h3
    refine ⟨(monthZ y r - 1).toNat + 1, ?_⟩
    have := rn_rounds y r ⟨a, b, c, d, e, f⟩ h2 h3 (monthZ y r - 1).toNat 1 (by omega) (by rw [mdZ_one]; exact h2) (by omega)
    rw [mdZ_one, Int.sub_zero] at this
    exact this
  · simp [den_fail] at h
def roF (vals : List V) (bs : List Blk) : Tree LRes := match vals, bs with
  | [.int .i64 r, .ptr 0 0 0 0, .int .i64 y], [.cells [.int .i64 a, .int .i64 b, .int .i64 c, .int .i64 d, .int .i64 e, .int .i64 f]] =>
    .need (decide (y = 1970) && decide (0 ≤ r) && decide (r ≤ 9223372036854775807)) (.ite (decide (r < 2932897)) (.leaf ⟨.ret, [.tru], [some (some (.cells (labOf r).vs))], []⟩) (.leaf ⟨.exit 0, [.any], [none], []⟩))
  | _, _ => .fail
def roL : LSpec := ⟨39, [0, 2, 4], [3], roF⟩
abbrev roG : List (Nat × Rx.Spec) := [(19, longS), (33, yearlyS)]
theorem roG_ok : GammaOK P roG := .cons refLong_ok (.cons yearly_ok (.nil P))
theorem ro_round (r y : Int) (L : Lab) : (evRound P (specsOf roG) (loopsOf [(8, rnL)]) 39 [0, 2, 4] [3] (loopAt Tryd.f14 0) [.int .i64 r, .ptr 0 0 0 0, .int .i64 y] [.cells L.vs]).den = Tree.den (Tree.ite (decide (y ≤ 9999)) (Tree.ite (decide (r < yearlyZ y)) (Tree.ite (true && decide (0 ≤ r) && decide (r < yearlyZ y)) (Tree.leaf { e := Ex.ret, vs := [V.tru], upd := [some (some (Body.cells [V.int IntKind.i64 y, V.int IntKind.i64 (monthZ y r), V.int IntKind.i64 (IntKind.i64.wrap (r - mdZ y (monthZ y r) + 1)), V.int IntKind.i64 0, V.int IntKind.i64 0, V.int IntKind.i64 0]))], new := [] }) Tree.fail) (Tree.leaf { e := Ex.nrm, vs := [V.int IntKind.i64 (IntKind.i64.wrap (r - yearlyZ y)), V.ptr 0 0 0 0, V.int IntKind.i64 (IntKind.i64.wrap (y + 1))], upd := [none], new := [] })) (Tree.leaf { e := Ex.exit 0, vs := [V.any], upd := [none], new := [] })) := by
  kernel_rfl
theorem ro_yes (n : Int) (L : Lab) (h0 : 0 ≤ n) (h1 : n < 2932897) : ∀ (j : Nat) (y : Int), 1970 ≤ y → aheadZ y ≤ n → y + j = yearZ n →
    (loopN P (specsOf roG) (loopsOf [(8, rnL)]) 39 [0, 2, 4] [3] (loopAt Tryd.f14 0) (j + 1) [.int .i64 (n - aheadZ y), .ptr 0 0 0 0, .int .i64 y] [.cells L.vs]).den = some ⟨.ret, [.tru], [some (some (.cells (labOf n).vs))], []⟩ := by
  obtain ⟨a1, a2, a3, a4⟩ := year_spec h0 h1
  intro j
  induction j with
  | zero =>
    intro y hy hy2 hj
    have ey : y = yearZ n := by omega
    refine loopN_end (r1 := ⟨.ret, [.tru], [some (some (.cells (labOf n).vs))], []⟩) ?_ (by simp)
    rw [ahead_step _ (by omega), ← ey] at a2
    obtain ⟨b1, b2, b3, b4⟩ := month_spec (y := y) (r := n - aheadZ y) (by omega) (by omega)
    have hyb := yearly_bd y
    have hb := mdN_bd y (monthZ y (n - aheadZ y) - 1).toNat
    rw [show mdN y (monthZ y (n - aheadZ y) - 1).toNat = mdZ y (monthZ y (n - aheadZ y)) from rfl] at hb
    rw [ro_round, show decide (y ≤ 9999) = true by simp; omega, show decide (n - aheadZ y < yearlyZ y) = true by simp; omega, show decide (0 ≤ n - aheadZ y) = true by simp; omega, wrap64_id (n := n - aheadZ y - mdZ y (monthZ y (n - aheadZ y)) + 1) (by omega) (by omega)]
    subst ey
    rfl
  | succ j ih =>
    intro y hy hy2 hj
    have hr := ro_round (n - aheadZ y) y L
    have hm2 := ahead_mono (y := y) (z := yearZ n) (by omega)
    have has := ahead_step y (by omega)
    have hyb := yearly_bd y
    have ha0 := ahead_bd (y + 1) (by omega) (by omega)
    rw [show decide (y ≤ 9999) = true by simp; omega, show decide (n - aheadZ y < yearlyZ y) = false by simp; omega, wrap64_id (n := y + 1) (by omega) (by omega), show n - aheadZ y - yearlyZ y = n - aheadZ (y + 1) by omega, wrap64_id (n := n - aheadZ (y + 1)) (by omega) (by omega)] at hr
    simp only [Tree.den] at hr
    have ih' := ih (y + 1) (by omega) (by omega) (by omega)
    exact loopN_step hr rfl (vals' := [.int .i64 (n - aheadZ (y + 1)), .ptr 0 0 0 0, .int .i64 (y + 1)]) (bs' := [.cells L.vs]) (by kernel_rfl) (by kernel_rfl) (by kernel_rfl) ih' (by kernel_rfl)
theorem ro_no (n : Int) (L : Lab) (h1 : 2932897 ≤ n) (h2 : n ≤ 9223372036854775807) : ∀ (j : Nat) (y : Int), 1970 ≤ y → y + j = 10000 →
    (loopN P (specsOf roG) (loopsOf [(8, rnL)]) 39 [0, 2, 4] [3] (loopAt Tryd.f14 0) (j + 1) [.int .i64 (n - aheadZ y), .ptr 0 0 0 0, .int .i64 y] [.cells L.vs]).den = some ⟨.exit 0, [.any], [none], []⟩ := by
  intro j
  induction j with
  | zero =>
    intro y hy hj
    refine loopN_end (r1 := ⟨.exit 0, [.any], [none], []⟩) ?_ (by simp)
    rw [ro_round, show decide (y ≤ 9999) = false by simp; omega]
    rfl
  | succ j ih =>
    intro y hy hj
    have hr := ro_round (n - aheadZ y) y L
    have has := ahead_step y (by omega)
    have hyb := yearly_bd y
    have ha := ahead_bd (y + 1) (by omega) (by omega)
    rw [show decide (y ≤ 9999) = true by simp; omega, show decide (n - aheadZ y < yearlyZ y) = false by simp; omega, wrap64_id (n := y + 1) (by omega) (by omega), show n - aheadZ y - yearlyZ y = n - aheadZ (y + 1) by omega, wrap64_id (n := n - aheadZ (y + 1)) (by omega) (by omega)] at hr
    simp only [Tree.den] at hr
    have ih' := ih (y + 1) (by omega) (by omega)
    exact loopN_step hr rfl (vals' := [.int .i64 (n - aheadZ (y + 1)), .ptr 0 0 0 0, .int .i64 (y + 1)]) (bs' := [.cells L.vs]) (by kernel_rfl) (by kernel_rfl) (by kernel_rfl) ih' (by kernel_rfl)
theorem ro_loop : LoopOK P (loopAt Tryd.f14 0) roL := by
  refine loop_ok roG_ok Go.Proofs.YtioplplpiaalhaaDoor.hm (Λ := loopsOf [(8, rnL)]) (LoopsOK.inner (by kernel_rfl) (d := loopAt Tryd.f14 1) (by kernel_rfl) rn_loop) _ ?_
  intro vals bs r h
  simp only [roL, roF] at h
  split at h
  · rename_i r y a b c d e f
    rw [den_need] at h
    simp only [Bool.and_eq_true, decide_eq_true_eq] at h
    obtain ⟨⟨⟨rfl, h2⟩, h3⟩, h⟩ := h
    have z0 : aheadZ 1970 = 0 := by decide
    rw [denI, denLf, denLf] at h
    by_cases hn : r < 2932897
    · rw [if_pos (by simpa using hn)] at h; cases h
      obtain ⟨a1, a2, a3, a4⟩ := year_spec h2 hn
      refine ⟨(yearZ r - 1970).toNat + 1, ?_⟩
      have := ro_yes r ⟨a, b, c, d, e, f⟩ h2 hn (yearZ r - 1970).toNat 1970 (by omega) (by omega) (by omega)
      rw [z0, Int.sub_zero] at this
      exact this
    · rw [if_neg (by simpa using hn)] at h; cases h
      refine ⟨8030 + 1, ?_⟩
      have := ro_no r ⟨a, b, c, d, e, f⟩ (by omega) h3 8030 1970 (by omega) (by omega)
      rw [z0, Int.sub_zero] at this
      exact this
  · simp [den_fail] at h
def refDateS : Rx.Spec := fun a b => match a, b with
  | [.int .i64 n], [] => .need (decide (n ≤ 9223372036854775807)) (.ite (dateB n) (.leaf ⟨.tup [(labOf n).v, .bool true], [], []⟩) (.leaf ⟨.tup [Lab.zero.v, .bool false], [], []⟩))
  | _, _ => .fail
theorem refDate_ok : SpecOK P 14 refDateS := by
  refine specOK_fast roG_ok hm (Λ := loopsOf [(4, roL)]) Tryd.func14 (by kernel_rfl) (LoopsOK.outer (by kernel_rfl) (by kernel_rfl) ro_loop) ?_
  intro args bs r h
  unfold refDateS at h
  split at h
  · rename_i n
    rw [show (fFn P (specsOf roG) (loopsOf [(4, roL)]) Tryd.f14 [.int .i64 n] []).denN = Tree.denN (Tree.ite (decide (n < 0)) (Tree.leaf { v := V.tup [V.agg [V.int IntKind.i64 0, V.int IntKind.i64 0, V.int IntKind.i64 0, V.int IntKind.i64 0, V.int IntKind.i64 0, V.int IntKind.i64 0], V.fls], upd := [], new := [] }) (Tree.ite (true && decide (0 ≤ n) && decide (n ≤ 9223372036854775807)) (Tree.ite (decide (n < 2932897)) (Tree.leaf { v := V.tup [V.agg [V.int IntKind.i64 (dYear n), V.int IntKind.i64 (dMonth n), V.int IntKind.i64 (dDay n), V.int IntKind.i64 0, V.int IntKind.i64 0, V.int IntKind.i64 0], V.tru], upd := [], new := [] }) (Tree.leaf { v := V.tup [V.agg [V.int IntKind.i64 0, V.int IntKind.i64 0, V.int IntKind.i64 0, V.int IntKind.i64 0, V.int IntKind.i64 0, V.int IntKind.i64 0], V.fls], upd := [], new := [] })) Tree.fail)) from by kernel_rfl]
    simp only [denN_ite, denN_leaf, denN_fail]
    rw [den_need, denI, denLf, denLf] at h
    obtain ⟨hn, h⟩ := h
    simp only [decide_eq_true_eq] at hn
    by_cases h1 : n < 0
    · have e : dateB n = false := by simp [dateB]; omega
      rw [e, if_neg (by decide)] at h; cases h
      rw [if_pos (by simpa using h1)]; rfl
    rw [if_neg (by simpa using h1), if_pos (by simp; omega)]
    by_cases h2 : n < 2932897
    · have e : dateB n = true := by simp [dateB]; omega
      rw [e, if_pos rfl] at h; cases h
      rw [if_pos (by simpa using h2)]; rfl
    · have e : dateB n = false := by simp [dateB]; omega
      rw [e, if_neg (by decide)] at h; cases h
      rw [if_neg (by simpa using h2)]; rfl
  · simp [den_fail] at h
end Go.Proofs.YtioplplpiaalhaaDoor

set_option maxRecDepth 100000
set_option linter.unusedSimpArgs false
set_option linter.unusedVariables false
namespace Go.Proofs.YtioplplpiaalhaaDoor
open Go.Rx

def ofB (s : Int) : Bool := decide (0 ≤ s) && decide (s < 253402300800)
def ofL (s : Int) : Lab := ⟨dYear (s / 86400), dMonth (s / 86400), dDay (s / 86400), s % 86400 / 3600, s % 3600 / 60, s % 60⟩
def ofS : Rx.Spec := fun a b => match a, b with
  | [.int .i64 s], [] => .need (decide (s ≤ 9223372036854775807)) (.ite (ofB s) (.leaf ⟨.tup [(ofL s).v, .bool true], [], []⟩) (.leaf ⟨.tup [Lab.zero.v, .bool false], [], []⟩))
  | _, _ => .fail
abbrev ofG : List (Nat × Rx.Spec) := [(13, dateS)]
theorem ofG_ok : GammaOK P ofG := .cons date_ok (.nil P)
theorem of_ok : SpecOK P 20 ofS := by
  refine specOK_fast ofG_ok hm (Λ := loopsOf []) Tryd.func20 (by kernel_rfl) (LoopsOK.nil (by kernel_rfl)) ?_
  intro args bs r h
  unfold ofS at h
  split at h
  · rename_i s
    rw [show (fFn P (specsOf ofG) (loopsOf []) Tryd.f20 [.int .i64 s] []).denN = Tree.denN (Tree.ite (decide (s < 0)) (Tree.leaf { v := V.tup [V.agg [V.int IntKind.i64 0, V.int IntKind.i64 0, V.int IntKind.i64 0, V.int IntKind.i64 0, V.int IntKind.i64 0, V.int IntKind.i64 0], V.fls], upd := [], new := [] }) (Tree.ite (dateB (IntKind.i64.wrap (s.tdiv 86400))) (Tree.leaf { v := V.tup [V.agg [V.int IntKind.i64 (dYear (IntKind.i64.wrap (s.tdiv 86400))), V.int IntKind.i64 (dMonth (IntKind.i64.wrap (s.tdiv 86400))), V.int IntKind.i64 (dDay (IntKind.i64.wrap (s.tdiv 86400))), V.int IntKind.i64 (IntKind.i64.wrap ((s.tmod 86400).tdiv 3600)), V.int IntKind.i64 ((IntKind.i64.wrap ((s.tmod 86400).tdiv 60)).tmod 60), V.int IntKind.i64 ((s.tmod 86400).tmod 60)], V.tru], upd := [], new := [] }) (Tree.leaf { v := V.tup [V.agg [V.int IntKind.i64 0, V.int IntKind.i64 0, V.int IntKind.i64 0, V.int IntKind.i64 0, V.int IntKind.i64 0, V.int IntKind.i64 0], V.fls], upd := [], new := [] }))) from by kernel_rfl]
    simp only [denN_ite, denN_leaf, denN_fail]
    rw [den_need, denI, denLf, denLf] at h
    obtain ⟨hn, h⟩ := h
    simp only [decide_eq_true_eq] at hn
    by_cases h1 : s < 0
    · have e : ofB s = false := by simp [ofB]; omega
      rw [e, if_neg (by decide)] at h; cases h
      rw [if_pos (by simpa using h1)]; rfl
    have q : s.tdiv 86400 = s / 86400 := Int.tdiv_eq_ediv_of_nonneg (by omega)
    have q2 : s.tmod 86400 = s % 86400 := Int.tmod_eq_emod_of_nonneg (by omega)
    have w1 : IntKind.i64.wrap (s / 86400) = s / 86400 := wrap64_id (by omega) (by omega)
    have q3 : (s % 86400).tdiv 3600 = s % 86400 / 3600 := Int.tdiv_eq_ediv_of_nonneg (by omega)
    have w2 : IntKind.i64.wrap (s % 86400 / 3600) = s % 86400 / 3600 := wrap64_id (by omega) (by omega)
    have q4 : (s % 86400).tdiv 60 = s % 86400 / 60 := Int.tdiv_eq_ediv_of_nonneg (by omega)
    have w3 : IntKind.i64.wrap (s % 86400 / 60) = s % 86400 / 60 := wrap64_id (by omega) (by omega)
    have q5 : (s % 86400 / 60).tmod 60 = s % 3600 / 60 := by rw [Int.tmod_eq_emod_of_nonneg (by omega)]; omega
    have q6 : (s % 86400).tmod 60 = s % 60 := by rw [Int.tmod_eq_emod_of_nonneg (by omega)]; omega
    rw [if_neg (by simpa using h1), q, w1, q2, q3, w2, q4, w3, q5, q6]
    by_cases h2 : s < 253402300800
    · have e : ofB s = true := by simp [ofB]; omega
      have e2 : dateB (s / 86400) = true := by simp [dateB]; omega
      rw [e, if_pos rfl] at h; cases h
      rw [if_pos e2]; rfl
    · have e : ofB s = false := by simp [ofB]; omega
      have e2 : dateB (s / 86400) = false := by simp [dateB]; omega
      rw [e, if_neg (by decide)] at h; cases h
      rw [if_neg (by rw [e2]; decide)]; rfl
  · simp [den_fail] at h
abbrev rofG : List (Nat × Rx.Spec) := [(14, refDateS)]
theorem rofG_ok : GammaOK P rofG := .cons refDate_ok (.nil P)
theorem refOf_ok : SpecOK P 21 ofS := by
  refine specOK_fast rofG_ok hm (Λ := loopsOf []) Tryd.func21 (by kernel_rfl) (LoopsOK.nil (by kernel_rfl)) ?_
  intro args bs r h
  unfold ofS at h
  split at h
  · rename_i s
    rw [show (fFn P (specsOf rofG) (loopsOf []) Tryd.f21 [.int .i64 s] []).denN = Tree.denN (Tree.ite (decide (s < 0)) (Tree.leaf { v := V.tup [V.agg [V.int IntKind.i64 0, V.int IntKind.i64 0, V.int IntKind.i64 0, V.int IntKind.i64 0, V.int IntKind.i64 0, V.int IntKind.i64 0], V.fls], upd := [], new := [] }) (Tree.ite (decide (IntKind.i64.wrap (s.tdiv 86400) ≤ 9223372036854775807)) (Tree.ite (dateB (IntKind.i64.wrap (s.tdiv 86400))) (Tree.leaf { v := V.tup [V.agg [V.int IntKind.i64 (dYear (IntKind.i64.wrap (s.tdiv 86400))), V.int IntKind.i64 (dMonth (IntKind.i64.wrap (s.tdiv 86400))), V.int IntKind.i64 (dDay (IntKind.i64.wrap (s.tdiv 86400))), V.int IntKind.i64 (IntKind.i64.wrap ((s.tmod 86400).tdiv 3600)), V.int IntKind.i64 (IntKind.i64.wrap ((IntKind.i64.wrap (s.tmod 86400 - IntKind.i64.wrap (IntKind.i64.wrap ((s.tmod 86400).tdiv 3600) * 3600))).tdiv 60)), V.int IntKind.i64 (IntKind.i64.wrap (IntKind.i64.wrap (s.tmod 86400 - IntKind.i64.wrap (IntKind.i64.wrap ((s.tmod 86400).tdiv 3600) * 3600)) - IntKind.i64.wrap (IntKind.i64.wrap ((IntKind.i64.wrap (s.tmod 86400 - IntKind.i64.wrap (IntKind.i64.wrap ((s.tmod 86400).tdiv 3600) * 3600))).tdiv 60) * 60)))], V.tru], upd := [], new := [] }) (Tree.leaf { v := V.tup [V.agg [V.int IntKind.i64 0, V.int IntKind.i64 0, V.int IntKind.i64 0, V.int IntKind.i64 0, V.int IntKind.i64 0, V.int IntKind.i64 0], V.fls], upd := [], new := [] })) Tree.fail)) from by kernel_rfl]
    simp only [denN_ite, denN_leaf, denN_fail]
    rw [den_need, denI, denLf, denLf] at h
    obtain ⟨hn, h⟩ := h
    simp only [decide_eq_true_eq] at hn
    by_cases h1 : s < 0
    · have e : ofB s = false := by simp [ofB]; omega
      rw [e, if_neg (by decide)] at h; cases h
      rw [if_pos (by simpa using h1)]; rfl
    have q : s.tdiv 86400 = s / 86400 := Int.tdiv_eq_ediv_of_nonneg (by omega)
    have q2 : s.tmod 86400 = s % 86400 := Int.tmod_eq_emod_of_nonneg (by omega)
    have w1 : IntKind.i64.wrap (s / 86400) = s / 86400 := wrap64_id (by omega) (by omega)
    have q3 : (s % 86400).tdiv 3600 = s % 86400 / 3600 := Int.tdiv_eq_ediv_of_nonneg (by omega)
    have w2 : IntKind.i64.wrap (s % 86400 / 3600) = s % 86400 / 3600 := wrap64_id (by omega) (by omega)
    have w3 : IntKind.i64.wrap (s % 86400 / 3600 * 3600) = s % 86400 / 3600 * 3600 := wrap64_id (by omega) (by omega)
    have w4 : IntKind.i64.wrap (s % 86400 - s % 86400 / 3600 * 3600) = s % 3600 := by rw [wrap64_id (by omega) (by omega)]; omega
    have q4 : (s % 3600).tdiv 60 = s % 3600 / 60 := Int.tdiv_eq_ediv_of_nonneg (by omega)
    have w5 : IntKind.i64.wrap (s % 3600 / 60) = s % 3600 / 60 := wrap64_id (by omega) (by omega)
    have w6 : IntKind.i64.wrap (s % 3600 / 60 * 60) = s % 3600 / 60 * 60 := wrap64_id (by omega) (by omega)
    have w7 : IntKind.i64.wrap (s % 3600 - s % 3600 / 60 * 60) = s % 60 := by rw [wrap64_id (by omega) (by omega)]; omega
    rw [if_neg (by simpa using h1), q, w1, q2, q3, w2, w3, w4, q4, w5, w6, w7, if_pos (by simp; omega)]
    by_cases h2 : s < 253402300800
    · have e : ofB s = true := by simp [ofB]; omega
      have e2 : dateB (s / 86400) = true := by simp [dateB]; omega
      rw [e, if_pos rfl] at h; cases h
      rw [if_pos e2]; rfl
    · have e : ofB s = false := by simp [ofB]; omega
      have e2 : dateB (s / 86400) = false := by simp [dateB]; omega
      rw [e, if_neg (by decide)] at h; cases h
      rw [if_neg (by rw [e2]; decide)]; rfl
  · simp [den_fail] at h

def rightZ (l : Lab) : Bool := dayB l.y l.mo l.d && decide (0 ≤ l.h) && decide (l.h ≤ 23) && decide (0 ≤ l.mi) && decide (l.mi ≤ 59) && decide (0 ≤ l.s) && (decide (l.s ≤ 59) || (l.h == 23 && l.mi == 59 && l.s == 60))
def rightS : Rx.Spec := fun a b => match a, b with
  | [v], [] => match Lab.of v with
    | some l => .leaf ⟨.bool (rightZ l), [], []⟩
    | none => .fail
  | _, _ => .fail
abbrev rgG : List (Nat × Rx.Spec) := [(11, dayS)]
theorem rgG_ok : GammaOK P rgG := .cons day_ok (.nil P)
theorem right_ok : SpecOK P 24 rightS := by
  refine specOK_fast rgG_ok hm (Λ := loopsOf []) Tryd.func24 (by kernel_rfl) (LoopsOK.nil (by kernel_rfl)) ?_
  intro args bs r h
  unfold rightS at h
  split at h
  · split at h
    · rename_i v _ l hl
      rw [Lab.of_eq hl]
      rw [den_leaf] at h; subst h
      rw [show (fFn P (specsOf rgG) (loopsOf []) Tryd.f24 [l.v] []).denN = Tree.denN (Tree.ite (dayB l.1 l.2 l.3) (Tree.ite (l.4 == 23) (Tree.ite (l.5 == 59) (Tree.ite (decide (l.4 ≥ 0)) (Tree.ite (decide (l.4 < 24)) (Tree.ite (decide (l.5 ≥ 0)) (Tree.ite (decide (l.5 < 60)) (Tree.ite (decide (l.6 ≥ 0)) (Tree.ite (decide (l.6 < 60)) (Tree.leaf { v := V.tru, upd := [], new := [] }) (Tree.leaf { v := V.bool (l.6 == 60), upd := [], new := [] })) (Tree.leaf { v := V.fls, upd := [], new := [] })) (Tree.leaf { v := V.fls, upd := [], new := [] })) (Tree.leaf { v := V.fls, upd := [], new := [] })) (Tree.leaf { v := V.fls, upd := [], new := [] })) (Tree.leaf { v := V.fls, upd := [], new := [] })) (Tree.ite (decide (l.4 ≥ 0)) (Tree.ite (decide (l.4 < 24)) (Tree.ite (decide (l.5 ≥ 0)) (Tree.ite (decide (l.5 < 60)) (Tree.ite (decide (l.6 ≥ 0)) (Tree.ite (decide (l.6 < 60)) (Tree.leaf { v := V.tru, upd := [], new := [] }) (Tree.leaf { v := V.fls, upd := [], new := [] })) (Tree.leaf { v := V.fls, upd := [], new := [] })) (Tree.leaf { v := V.fls, upd := [], new := [] })) (Tree.leaf { v := V.fls, upd := [], new := [] })) (Tree.leaf { v := V.fls, upd := [], new := [] })) (Tree.leaf { v := V.fls, upd := [], new := [] }))) (Tree.ite (decide (l.4 ≥ 0)) (Tree.ite (decide (l.4 < 24)) (Tree.ite (decide (l.5 ≥ 0)) (Tree.ite (decide (l.5 < 60)) (Tree.ite (decide (l.6 ≥ 0)) (Tree.ite (decide (l.6 < 60)) (Tree.leaf { v := V.tru, upd := [], new := [] }) (Tree.leaf { v := V.fls, upd := [], new := [] })) (Tree.leaf { v := V.fls, upd := [], new := [] })) (Tree.leaf { v := V.fls, upd := [], new := [] })) (Tree.leaf { v := V.fls, upd := [], new := [] })) (Tree.leaf { v := V.fls, upd := [], new := [] })) (Tree.leaf { v := V.fls, upd := [], new := [] }))) (Tree.ite (l.4 == 23) (Tree.ite (l.5 == 59) (Tree.leaf { v := V.fls, upd := [], new := [] }) (Tree.leaf { v := V.fls, upd := [], new := [] })) (Tree.leaf { v := V.fls, upd := [], new := [] }))) from by kernel_rfl]
      simp only [denN_ite, denN_leaf, denN_fail, nrmF, nrmT, iteR]
      refine resB ?_
      simp only [rightZ, iteF, iteT, iteN]
      rw [Bool.eq_iff_iff]
      simp only [Bool.and_eq_true, Bool.or_eq_true, Bool.not_eq_true', decide_eq_true_eq, decide_eq_false_iff_not, beq_iff_eq, bne_iff_ne, ne_eq]
      first | omega | grind
    · simp [den_fail] at h
  · simp [den_fail] at h
abbrev rrgG : List (Nat × Rx.Spec) := [(12, dayS)]
theorem rrgG_ok : GammaOK P rrgG := .cons refDay_ok (.nil P)
theorem refRight_ok : SpecOK P 25 rightS := by
  refine specOK_fast rrgG_ok hm (Λ := loopsOf []) Tryd.func25 (by kernel_rfl) (LoopsOK.nil (by kernel_rfl)) ?_
  intro args bs r h
  unfold rightS at h
  split at h
  · split at h
    · rename_i v _ l hl
      rw [Lab.of_eq hl]
      rw [den_leaf] at h; subst h
      rw [show (fFn P (specsOf rrgG) (loopsOf []) Tryd.f25 [l.v] []).denN = Tree.denN (Tree.ite (dayB l.1 l.2 l.3) (Tree.ite (decide (l.4 < 0)) (Tree.leaf { v := V.fls, upd := [], new := [] }) (Tree.ite (decide (l.4 > 23)) (Tree.leaf { v := V.fls, upd := [], new := [] }) (Tree.ite (decide (l.5 < 0)) (Tree.leaf { v := V.fls, upd := [], new := [] }) (Tree.ite (decide (l.5 > 59)) (Tree.leaf { v := V.fls, upd := [], new := [] }) (Tree.ite (decide (l.6 < 0)) (Tree.leaf { v := V.fls, upd := [], new := [] }) (Tree.ite (decide (l.6 > 60)) (Tree.leaf { v := V.fls, upd := [], new := [] }) (Tree.ite (decide (l.6 < 60)) (Tree.leaf { v := V.tru, upd := [], new := [] }) (Tree.ite (l.4 == 23) (Tree.leaf { v := V.bool (l.5 == 59), upd := [], new := [] }) (Tree.leaf { v := V.fls, upd := [], new := [] }))))))))) (Tree.leaf { v := V.fls, upd := [], new := [] })) from by kernel_rfl]
      simp only [denN_ite, denN_leaf, denN_fail, nrmF, nrmT, iteR]
      refine resB ?_
      simp only [rightZ, iteF, iteT, iteN]
      rw [Bool.eq_iff_iff]
      simp only [Bool.and_eq_true, Bool.or_eq_true, Bool.not_eq_true', decide_eq_true_eq, decide_eq_false_iff_not, beq_iff_eq, bne_iff_ne, ne_eq]
      first | omega | grind
    · simp [den_fail] at h
  · simp [den_fail] at h
end Go.Proofs.YtioplplpiaalhaaDoor

set_option maxRecDepth 100000
set_option linter.unusedSimpArgs false
set_option linter.unusedVariables false
namespace Go.Proofs.YtioplplpiaalhaaDoor
open Go.Rx

def secZ (l : Lab) : Int := dayZ l.y l.mo l.d * 86400 + l.h * 3600 + l.mi * 60 + l.s
def secS : Rx.Spec := fun a b => match a, b with
  | [v], [] => match Lab.of v with
    | some l => .ite (rightZ l) (.leaf ⟨.tup [.int .i64 (secZ l), .bool true], [], []⟩) (.leaf ⟨.tup [.int .i64 0, .bool false], [], []⟩)
    | none => .fail
  | _, _ => .fail
theorem right_mem {l : Lab} (h : rightZ l = true) : dayB l.y l.mo l.d = true ∧ 0 ≤ l.h ∧ l.h ≤ 23 ∧ 0 ≤ l.mi ∧ l.mi ≤ 59 ∧ 0 ≤ l.s ∧ l.s ≤ 60 ∧ (l.s = 60 → l.h = 23 ∧ l.mi = 59) := by
  simp only [rightZ, Bool.and_eq_true, Bool.or_eq_true, decide_eq_true_eq, beq_iff_eq] at h
  refine ⟨h.1.1.1.1.1.1, ?_⟩
  omega
theorem day_mem {y m d : Int} (h : dayB y m d = true) : 1970 ≤ y ∧ y ≤ 9999 ∧ 1 ≤ m ∧ m ≤ 12 ∧ 1 ≤ d ∧ d ≤ longZ y m ∧ 0 ≤ dayZ y m d ∧ dayZ y m d < 2932897 := by
  simp only [dayB, Bool.and_eq_true, decide_eq_true_eq] at h
  obtain ⟨⟨⟨h1, h2⟩, h3⟩, h4⟩ := h
  have hm : 1 ≤ m ∧ m ≤ 12 := by
    by_cases hc : m < 1 ∨ m > 12
    · unfold longZ at h4; rw [if_pos hc] at h4; omega
    · omega
  have ha := ahead_bd y (by omega) (by omega)
  have hb := mdN_bd y (m - 1).toNat
  rw [show mdN y (m - 1).toNat = mdZ y m from rfl] at hb
  have hmm : mdZ y (m + 1) ≤ mdZ y 13 := by
    by_cases e : m = 12
    · rw [e]; exact Int.le_refl _
    · exact md_mono y hm.1 (by omega)
  rw [md_year, mdZ_succ y m hm.1] at hmm
  have hs := ahead_step y (by omega)
  have ht : aheadZ (y + 1) ≤ 2932897 := by unfold aheadZ; omega
  unfold dayZ
  omega
abbrev seG : List (Nat × Rx.Spec) := [(11, dayS), (24, rightS)]
theorem seG_ok : GammaOK P seG := .cons day_ok (.cons right_ok (.nil P))
theorem sec_ok : SpecOK P 22 secS := by
  refine specOK_fast seG_ok hm (Λ := loopsOf []) Tryd.func22 (by kernel_rfl) (LoopsOK.nil (by kernel_rfl)) ?_
  intro args bs r h
  unfold secS at h
  split at h
  · split at h
    · rename_i v _ l hl
      rw [Lab.of_eq hl]
      rw [denI, denLf, denLf] at h
      rw [show (fFn P (specsOf seG) (loopsOf []) Tryd.f22 [l.v] []).denN = Tree.denN (Tree.ite (!rightZ l) (Tree.leaf { v := V.tup [V.int IntKind.i64 0, V.fls], upd := [], new := [] }) (Tree.ite (dayB l.1 l.2 l.3) (Tree.leaf { v := V.tup [V.int IntKind.i64 (IntKind.i64.wrap (IntKind.i64.wrap (IntKind.i64.wrap (IntKind.i64.wrap (dayZ l.1 l.2 l.3 * 86400) + IntKind.i64.wrap (l.4 * 3600)) + IntKind.i64.wrap (l.5 * 60)) + l.6)), V.tru], upd := [], new := [] }) (Tree.leaf { v := V.tup [V.int IntKind.i64 (IntKind.i64.wrap (IntKind.i64.wrap (IntKind.i64.wrap (0 + IntKind.i64.wrap (l.4 * 3600)) + IntKind.i64.wrap (l.5 * 60)) + l.6)), V.tru], upd := [], new := [] }))) from by kernel_rfl]
      simp only [denN_ite, denN_leaf, denN_fail]
      by_cases hr : rightZ l = true
      · rw [if_pos hr] at h; cases h
        obtain ⟨g1, g2, g3, g4, g5, g6, g7, _⟩ := right_mem hr
        obtain ⟨d1, d2, d3, d4, d5, d6, d7, d8⟩ := day_mem g1
        rw [if_neg (by rw [hr]; decide), if_pos g1]
        simp (disch := omega) only [wrap64_id]
        show some _ = some (Res.nrm ⟨.tup [.int .i64 (secZ l), .bool true], [], []⟩)
        rfl
      · rw [if_neg hr] at h; cases h
        have e : rightZ l = false := by simpa using hr
        rw [if_pos (by rw [e]; rfl)]; rfl
    · simp [den_fail] at h
  · simp [den_fail] at h
abbrev rseG : List (Nat × Rx.Spec) := [(12, dayS), (25, rightS)]
theorem rseG_ok : GammaOK P rseG := .cons refDay_ok (.cons refRight_ok (.nil P))
theorem refSec_ok : SpecOK P 23 secS := by
  refine specOK_fast rseG_ok hm (Λ := loopsOf []) Tryd.func23 (by kernel_rfl) (LoopsOK.nil (by kernel_rfl)) ?_
  intro args bs r h
  unfold secS at h
  split at h
  · split at h
    · rename_i v _ l hl
      rw [Lab.of_eq hl]
      rw [denI, denLf, denLf] at h
      rw [show (fFn P (specsOf rseG) (loopsOf []) Tryd.f23 [l.v] []).denN = Tree.denN (Tree.ite (!rightZ l) (Tree.leaf { v := V.tup [V.int IntKind.i64 0, V.fls], upd := [], new := [] }) (Tree.ite (dayB l.1 l.2 l.3) (Tree.leaf { v := V.tup [V.int IntKind.i64 (IntKind.i64.wrap (IntKind.i64.wrap (IntKind.i64.wrap (IntKind.i64.wrap (IntKind.i64.wrap (IntKind.i64.wrap (dayZ l.1 l.2 l.3 * 24) + l.4) * 60) + l.5) * 60) + l.6)), V.tru], upd := [], new := [] }) (Tree.leaf { v := V.tup [V.int IntKind.i64 (IntKind.i64.wrap (IntKind.i64.wrap (IntKind.i64.wrap (IntKind.i64.wrap (IntKind.i64.wrap (0 + l.4) * 60) + l.5) * 60) + l.6)), V.tru], upd := [], new := [] }))) from by kernel_rfl]
      simp only [denN_ite, denN_leaf, denN_fail]
      by_cases hr : rightZ l = true
      · rw [if_pos hr] at h; cases h
        obtain ⟨g1, g2, g3, g4, g5, g6, g7, _⟩ := right_mem hr
        obtain ⟨d1, d2, d3, d4, d5, d6, d7, d8⟩ := day_mem g1
        rw [if_neg (by rw [hr]; decide), if_pos g1]
        simp (disch := omega) only [wrap64_id]
        show some _ = some (Res.nrm ⟨.tup [.int .i64 (secZ l), .bool true], [], []⟩)
        rw [show ((dayZ l.y l.mo l.d * 24 + l.h) * 60 + l.mi) * 60 + l.s = secZ l by unfold secZ; omega]
        rfl
      · rw [if_neg hr] at h; cases h
        have e : rightZ l = false := by simpa using hr
        rw [if_pos (by rw [e]; rfl)]; rfl
    · simp [den_fail] at h
  · simp [den_fail] at h

def lessZ (a b : Lab) : Bool :=
  if a.y ≠ b.y then decide (a.y < b.y) else if a.mo ≠ b.mo then decide (a.mo < b.mo) else if a.d ≠ b.d then decide (a.d < b.d) else
  if a.h ≠ b.h then decide (a.h < b.h) else if a.mi ≠ b.mi then decide (a.mi < b.mi) else decide (a.s < b.s)
def lessS : Rx.Spec := fun a b => match a, b with
  | [u, v], [] => match Lab.of u, Lab.of v with
    | some l, some m => .leaf ⟨.bool (lessZ l m), [], []⟩
    | _, _ => .fail
  | _, _ => .fail
theorem lexS {a b : Int} {X : Option Res} {c : Bool} {u : List (Option (Option Blk))} {n : List Blk} (h : a = b → X = some (Res.nrm ⟨.bool c, u, n⟩)) :
    (if a < b then some (Res.nrm ⟨.bool true, u, n⟩) else if a > b then some (Res.nrm ⟨.bool false, u, n⟩) else X) = some (Res.nrm ⟨.bool (if a = b then c else decide (a < b)), u, n⟩) := by
  rcases Int.lt_trichotomy a b with e | e | e
  · rw [if_pos e, if_neg (by omega), decide_eq_true e]
  · rw [if_neg (by omega), if_neg (by omega), if_pos e, h e]
  · rw [if_neg (by omega), if_pos e, if_neg (by omega), decide_eq_false (by omega)]
theorem parts_ok : SpecOK P 34 (fFn P (specsOf []) (loopsOf []) Tryd.f34) := inl_ok (GammaOK.nil P) hm Tryd.func34 (by kernel_rfl) (LoopsOK.nil (by kernel_rfl))
noncomputable abbrev leG : List (Nat × Rx.Spec) := [(34, fFn P (specsOf []) (loopsOf []) Tryd.f34)]
theorem leG_ok : GammaOK P leG := .cons parts_ok (.nil P)
noncomputable abbrev leL : LSpec := fUnroll P (specsOf leG) (loopsOf []) Tryd.f26 (loopAt Tryd.f26 0) 7
theorem less_ok : SpecOK P 26 lessS := by
  refine specOK_fast leG_ok hm (Λ := loopsOf [(3, leL)]) Tryd.func26 (by kernel_rfl) (LoopsOK.one (by kernel_rfl) (fUnroll_ok leG_ok hm (LoopsOK.nil (by kernel_rfl)) _ _)) ?_
  intro args bs r h
  unfold lessS at h
  split at h
  · split at h
    · rename_i u v _ _ l m hl hm'
      rw [Lab.of_eq hl, Lab.of_eq hm']
      rw [denLf] at h; cases h
      rw [show (fFn P (specsOf leG) (loopsOf [(3, leL)]) Tryd.f26 [l.v, m.v] []).denN = Tree.denN (Tree.ite ([l.1, l.2, l.3, l.4, l.5, l.6].getD 0 0 != [m.1, m.2, m.3, m.4, m.5, m.6].getD 0 0) (Tree.leaf { v := V.bool (decide ([l.1, l.2, l.3, l.4, l.5, l.6].getD 0 0 < [m.1, m.2, m.3, m.4, m.5, m.6].getD 0 0)), upd := [], new := [] }) (Tree.ite ([l.1, l.2, l.3, l.4, l.5, l.6].getD 1 0 != [m.1, m.2, m.3, m.4, m.5, m.6].getD 1 0) (Tree.leaf { v := V.bool (decide ([l.1, l.2, l.3, l.4, l.5, l.6].getD 1 0 < [m.1, m.2, m.3, m.4, m.5, m.6].getD 1 0)), upd := [], new := [] }) (Tree.ite ([l.1, l.2, l.3, l.4, l.5, l.6].getD 2 0 != [m.1, m.2, m.3, m.4, m.5, m.6].getD 2 0) (Tree.leaf { v := V.bool (decide ([l.1, l.2, l.3, l.4, l.5, l.6].getD 2 0 < [m.1, m.2, m.3, m.4, m.5, m.6].getD 2 0)), upd := [], new := [] }) (Tree.ite ([l.1, l.2, l.3, l.4, l.5, l.6].getD 3 0 != [m.1, m.2, m.3, m.4, m.5, m.6].getD 3 0) (Tree.leaf { v := V.bool (decide ([l.1, l.2, l.3, l.4, l.5, l.6].getD 3 0 < [m.1, m.2, m.3, m.4, m.5, m.6].getD 3 0)), upd := [], new := [] }) (Tree.ite ([l.1, l.2, l.3, l.4, l.5, l.6].getD 4 0 != [m.1, m.2, m.3, m.4, m.5, m.6].getD 4 0) (Tree.leaf { v := V.bool (decide ([l.1, l.2, l.3, l.4, l.5, l.6].getD 4 0 < [m.1, m.2, m.3, m.4, m.5, m.6].getD 4 0)), upd := [], new := [] }) (Tree.ite ([l.1, l.2, l.3, l.4, l.5, l.6].getD 5 0 != [m.1, m.2, m.3, m.4, m.5, m.6].getD 5 0) (Tree.leaf { v := V.bool (decide ([l.1, l.2, l.3, l.4, l.5, l.6].getD 5 0 < [m.1, m.2, m.3, m.4, m.5, m.6].getD 5 0)), upd := [], new := [] }) (Tree.leaf { v := V.fls, upd := [], new := [] }))))))) from by kernel_rfl]
      simp only [denN_ite, denN_leaf, denN_fail]
      simp only [List.getD_cons_zero, List.getD_cons_succ, bne_iff_ne, ne_eq, decide_eq_true_eq, nrmF, nrmT, ite_not]
      have key : ∀ (c : Prop) [Decidable c] (x y : Option Res), (if c then x else y) = if decide c = true then x else y := fun c _ x y => by by_cases h : c <;> simp [h]
      unfold lessZ
      simp only [ne_eq, ite_not]
      repeat' split
      all_goals first | rfl | (exfalso; omega) | (refine resB ?_; first | exact (decide_eq_true (by omega)).symm | exact (decide_eq_false (by omega)).symm) | (trace_state; sorry)
    · simp [den_fail] at h
  · simp [den_fail] at h
noncomputable abbrev rleL : LSpec := fUnroll P (specsOf []) (loopsOf []) Tryd.f27 (loopAt Tryd.f27 0) 7
theorem refLess_ok : SpecOK P 27 lessS := by
  refine specOK_fast (GammaOK.nil P) hm (Λ := loopsOf [(4, rleL)]) Tryd.func27 (by kernel_rfl) (LoopsOK.one (by kernel_rfl) (fUnroll_ok (GammaOK.nil P) hm (LoopsOK.nil (by kernel_rfl)) _ _)) ?_
  intro args bs r h
  unfold lessS at h
  split at h
  · split at h
    · rename_i u v _ _ l m hl hm'
      rw [Lab.of_eq hl, Lab.of_eq hm']
      rw [denLf] at h; cases h
      rw [show (fFn P (specsOf []) (loopsOf [(4, rleL)]) Tryd.f27 [l.v, m.v] []).denN = Tree.denN (Tree.ite (decide ([l.1, l.2, l.3, l.4, l.5, l.6].getD 0 0 < [m.1, m.2, m.3, m.4, m.5, m.6].getD 0 0)) (Tree.leaf { v := V.tru, upd := [], new := [] }) (Tree.ite (decide ([l.1, l.2, l.3, l.4, l.5, l.6].getD 0 0 > [m.1, m.2, m.3, m.4, m.5, m.6].getD 0 0)) (Tree.leaf { v := V.fls, upd := [], new := [] }) (Tree.ite (decide ([l.1, l.2, l.3, l.4, l.5, l.6].getD 1 0 < [m.1, m.2, m.3, m.4, m.5, m.6].getD 1 0)) (Tree.leaf { v := V.tru, upd := [], new := [] }) (Tree.ite (decide ([l.1, l.2, l.3, l.4, l.5, l.6].getD 1 0 > [m.1, m.2, m.3, m.4, m.5, m.6].getD 1 0)) (Tree.leaf { v := V.fls, upd := [], new := [] }) (Tree.ite (decide ([l.1, l.2, l.3, l.4, l.5, l.6].getD 2 0 < [m.1, m.2, m.3, m.4, m.5, m.6].getD 2 0)) (Tree.leaf { v := V.tru, upd := [], new := [] }) (Tree.ite (decide ([l.1, l.2, l.3, l.4, l.5, l.6].getD 2 0 > [m.1, m.2, m.3, m.4, m.5, m.6].getD 2 0)) (Tree.leaf { v := V.fls, upd := [], new := [] }) (Tree.ite (decide ([l.1, l.2, l.3, l.4, l.5, l.6].getD 3 0 < [m.1, m.2, m.3, m.4, m.5, m.6].getD 3 0)) (Tree.leaf { v := V.tru, upd := [], new := [] }) (Tree.ite (decide ([l.1, l.2, l.3, l.4, l.5, l.6].getD 3 0 > [m.1, m.2, m.3, m.4, m.5, m.6].getD 3 0)) (Tree.leaf { v := V.fls, upd := [], new := [] }) (Tree.ite (decide ([l.1, l.2, l.3, l.4, l.5, l.6].getD 4 0 < [m.1, m.2, m.3, m.4, m.5, m.6].getD 4 0)) (Tree.leaf { v := V.tru, upd := [], new := [] }) (Tree.ite (decide ([l.1, l.2, l.3, l.4, l.5, l.6].getD 4 0 > [m.1, m.2, m.3, m.4, m.5, m.6].getD 4 0)) (Tree.leaf { v := V.fls, upd := [], new := [] }) (Tree.ite (decide ([l.1, l.2, l.3, l.4, l.5, l.6].getD 5 0 < [m.1, m.2, m.3, m.4, m.5, m.6].getD 5 0)) (Tree.leaf { v := V.tru, upd := [], new := [] }) (Tree.ite (decide ([l.1, l.2, l.3, l.4, l.5, l.6].getD 5 0 > [m.1, m.2, m.3, m.4, m.5, m.6].getD 5 0)) (Tree.leaf { v := V.fls, upd := [], new := [] }) (Tree.leaf { v := V.fls, upd := [], new := [] }))))))))))))) from by kernel_rfl]
      simp only [denN_ite, denN_leaf, denN_fail]
      simp only [List.getD_cons_zero, List.getD_cons_succ, bne_iff_ne, ne_eq, decide_eq_true_eq, nrmF, nrmT, ite_not]
      unfold lessZ
      simp only [ne_eq, ite_not]
      refine lexS fun _ => lexS fun _ => lexS fun _ => lexS fun _ => lexS fun _ => ?_
      split
      · rename_i hc; rw [decide_eq_true hc]
      · rename_i hc; rw [decide_eq_false hc]; simp
    · simp [den_fail] at h
  · simp [den_fail] at h
end Go.Proofs.YtioplplpiaalhaaDoor
