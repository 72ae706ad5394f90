/- The abstract evaluator: what is given up, what is only read; the program's structs. No condition. -/
import Derived.Test.YtgdalboilghciaaRxB
set_option linter.unusedSimpArgs false
set_option linter.unusedVariables false
set_option linter.unnecessarySimpa false
set_option linter.unusedSectionVars false
namespace Go.Rx
open Go.ChangeShapes Go.WideShapes Go.ChangeAt Go.RowKit

def ckI64 : CK → Bool
  | .sl _ ks => ks.head? == some (.int .i64)
  | .k _ => true
section
variable {P : Program} {H : Type} {enc : TypeId × Value → H} {w : World}
end
end Go.Rx

namespace Go.Rx
/-- The same, but for blocks that are given up. -/
def gu : List (Option (Option Blk)) → List (Option (Option Blk)) → Prop
  | [], [] => True
  | x :: u, y :: v => (y = x ∨ y = some none) ∧ gu u v
  | _, _ => False
theorem gu_get : ∀ {u v : List (Option (Option Blk))}, gu u v → ∀ b, v[b]? = u[b]? ∨ (v[b]? = some (some none) ∧ b < u.length)
  | [], [], _, b => .inl rfl
  | [], _ :: _, h, _ => h.elim
  | _ :: _, [], h, _ => h.elim
  | x :: u, y :: v, ⟨h1, h2⟩, b => by
    cases b with
    | zero =>
      rcases h1 with rfl | rfl
      · exact .inl rfl
      · exact .inr ⟨rfl, by simp⟩
    | succ b => simpa using gu_get h2 b
theorem PostR.give {ρ ρ' : Rho} {nb : Nat} {x : V} {u v : List (Option (Option Blk))} {n : List Blk} {y : Value} {w w' : World} (h : PostR ρ nb ⟨x, u, n⟩ y w w' ρ') (hg : gu u v) : PostR ρ nb ⟨x, v, n⟩ y w w' ρ' := by
  refine ⟨h.le, h.dom, h.val, ?_, h.new, ?_, ?_, h.inj⟩
  · intro b z hb
    simp only at hb
    rcases gu_get hg b with e | ⟨e, _⟩
    · exact h.old b z (by simpa [e] using hb)
    · rw [e] at hb; simp at hb; exact .inl hb.symm
  · refine h.fr.weaken fun b hb => ?_
    obtain ⟨z, hz⟩ := hb
    simp only at hz ⊢
    rcases gu_get hg b with e | ⟨e, _⟩
    · exact ⟨z, by rw [e]; exact hz⟩
    · exact ⟨none, e⟩
  · intro j s hj
    rcases h.fresh j s hj with h1 | h1 | ⟨c, t, h1, h2⟩
    · exact .inl h1
    · exact .inr (.inl h1)
    · refine .inr (.inr ⟨c, t, ?_, h2⟩)
      simp only at h1 ⊢
      rcases gu_get hg c with e | ⟨e, _⟩
      · rw [e]; exact h1
      · exact e
theorem specGive [Glob] {P : Program} {k : FuncId} {s s' : Spec} (h : SpecOK P k s) (hs : ∀ args bs r, (s' args bs).den = some r → ∃ u, (s args bs).denN = some (Res.nrm ⟨r.v, u, r.new⟩) ∧ gu u r.upd) : SpecOK P k s' := by
  refine ⟨?_, h.good⟩
  intro args bs r hr ρ xs w hx hbs
  obtain ⟨u, hu, hg⟩ := hs args bs r hr
  unfold Tree.denN at hu
  obtain ⟨r0, h0, he⟩ := Option.map_eq_some_iff.1 hu
  refine (h.correct args bs r0 h0 ρ xs w hx hbs).mono ?_
  rintro e w' ⟨v, ρ', rfl, hp⟩
  refine ⟨v, ρ', rfl, ?_⟩
  have : PostR ρ bs.length ⟨r.v, u, r.new⟩ v w w' ρ' := by
    refine PostR.nrm.1 ?_
    rw [← he]
    exact PostR.nrm.2 hp
  exact this.give hg
end Go.Rx

namespace Go.Rx
open Go.ChangeShapes Go.WideShapes Go.ChangeAt Go.RowKit

def ckSix : CK → Bool
  | .sl _ ks => ks.head? == some (.int .i64) && Nat.ble 6 ks.length
  | .k _ => true
section
variable {P : Program} {H : Type} {enc : TypeId × Value → H} {w : World}
end
end Go.Rx

namespace Go.Rx

def pI : List V → Option (Int × List V)
  | .int .i64 n :: r => some (n, r)
  | _ => none
def pU : List V → Option (Int × List V)
  | .int .u8 n :: r => some (n, r)
  | _ => none
def pB : List V → Option (Bool × List V)
  | .bool n :: r => some (n, r)
  | _ => none
theorem pI_eq {l r : List V} {n : Int} (h : pI l = some (n, r)) : l = [V.int .i64 n] ++ r := by
  unfold pI at h; split at h
  · simp only [Option.some.injEq, Prod.mk.injEq] at h; obtain ⟨rfl, rfl⟩ := h; rfl
  · cases h
theorem pU_eq {l r : List V} {n : Int} (h : pU l = some (n, r)) : l = [V.int .u8 n] ++ r := by
  unfold pU at h; split at h
  · simp only [Option.some.injEq, Prod.mk.injEq] at h; obtain ⟨rfl, rfl⟩ := h; rfl
  · cases h
theorem pB_eq {l r : List V} {n : Bool} (h : pB l = some (n, r)) : l = [V.bool n] ++ r := by
  unfold pB at h; split at h
  · simp only [Option.some.injEq, Prod.mk.injEq] at h; obtain ⟨rfl, rfl⟩ := h; rfl
  · cases h

structure Ck where
  b0 : Int
  b1 : Int
  b2 : Int
  b3 : Int
  b4 : Int
  b5 : Int
  b6 : Int
  b7 : Int
  deriving DecidableEq, Inhabited
def Ck.vs (x : Ck) : List V := [V.int .u8 (x.b0)] ++ ([V.int .u8 (x.b1)] ++ ([V.int .u8 (x.b2)] ++ ([V.int .u8 (x.b3)] ++ ([V.int .u8 (x.b4)] ++ ([V.int .u8 (x.b5)] ++ ([V.int .u8 (x.b6)] ++ ([V.int .u8 (x.b7)])))))))
def Ck.v (x : Ck) : V := .agg x.vs
def Ck.zero : Ck := ⟨0, 0, 0, 0, 0, 0, 0, 0⟩
def Ck.p (l0 : List V) : Option (Ck × List V) :=
  match pU l0 with
  | none => none
  | some (a0, l1) =>
    match pU l1 with
    | none => none
    | some (a1, l2) =>
      match pU l2 with
      | none => none
      | some (a2, l3) =>
        match pU l3 with
        | none => none
        | some (a3, l4) =>
          match pU l4 with
          | none => none
          | some (a4, l5) =>
            match pU l5 with
            | none => none
            | some (a5, l6) =>
              match pU l6 with
              | none => none
              | some (a6, l7) =>
                match pU l7 with
                | none => none
                | some (a7, l8) =>
                  some (⟨a0, a1, a2, a3, a4, a5, a6, a7⟩, l8)
theorem Ck.p_eq {l0 r : List V} {x : Ck} (h : Ck.p l0 = some (x, r)) : l0 = x.vs ++ r := by
  unfold Ck.p at h
  split at h
  · cases h
  rename_i a0 l1 h0
  split at h
  · cases h
  rename_i a1 l2 h1
  split at h
  · cases h
  rename_i a2 l3 h2
  split at h
  · cases h
  rename_i a3 l4 h3
  split at h
  · cases h
  rename_i a4 l5 h4
  split at h
  · cases h
  rename_i a5 l6 h5
  split at h
  · cases h
  rename_i a6 l7 h6
  split at h
  · cases h
  rename_i a7 l8 h7
  simp only [Option.some.injEq, Prod.mk.injEq] at h
  obtain ⟨rfl, rfl⟩ := h
  rw [pU_eq h0, pU_eq h1, pU_eq h2, pU_eq h3, pU_eq h4, pU_eq h5, pU_eq h6, pU_eq h7]
  simp only [Ck.vs, List.append_assoc]
def Ck.of : V → Option Ck
  | .agg l => match Ck.p l with
    | some (x, []) => some x
    | _ => none
  | _ => none
theorem Ck.of_eq {v : V} {x : Ck} (h : Ck.of v = some x) : v = x.v := by
  unfold Ck.of at h; split at h
  · split at h
    · rename_i h1; simp only [Option.some.injEq] at h; subst h; rw [Ck.p_eq h1, List.append_nil]; rfl
    · cases h
  · cases h
def Ck.eqB (x y : Ck) : Bool := (x.b0 == y.b0) && ((x.b1 == y.b1) && ((x.b2 == y.b2) && ((x.b3 == y.b3) && ((x.b4 == y.b4) && ((x.b5 == y.b5) && ((x.b6 == y.b6) && ((x.b7 == y.b7) && true)))))))
theorem Ck.eqB_iff {x y : Ck} : Ck.eqB x y = true ↔ x = y := by
  cases x; cases y
  simp only [Ck.eqB, Bool.and_eq_true, beq_iff_eq, Bool.and_true, and_true, Ck.mk.injEq]
theorem Ck.eqB_self (x : Ck) : Ck.eqB x x = true := Ck.eqB_iff.2 rfl

structure Prt where
  c : Ck
  n : Int
  deriving DecidableEq, Inhabited
def Prt.vs (x : Prt) : List V := (x.c).vs ++ ([V.int .i64 (x.n)])
def Prt.v (x : Prt) : V := .agg x.vs
def Prt.zero : Prt := ⟨Ck.zero, 0⟩
def Prt.p (l0 : List V) : Option (Prt × List V) :=
  match Ck.p l0 with
  | none => none
  | some (a0, l1) =>
    match pI l1 with
    | none => none
    | some (a1, l2) =>
      some (⟨a0, a1⟩, l2)
theorem Prt.p_eq {l0 r : List V} {x : Prt} (h : Prt.p l0 = some (x, r)) : l0 = x.vs ++ r := by
  unfold Prt.p at h
  split at h
  · cases h
  rename_i a0 l1 h0
  split at h
  · cases h
  rename_i a1 l2 h1
  simp only [Option.some.injEq, Prod.mk.injEq] at h
  obtain ⟨rfl, rfl⟩ := h
  rw [Ck.p_eq h0, pI_eq h1]
  simp only [Prt.vs, List.append_assoc]
def Prt.of : V → Option Prt
  | .agg l => match Prt.p l with
    | some (x, []) => some x
    | _ => none
  | _ => none
theorem Prt.of_eq {v : V} {x : Prt} (h : Prt.of v = some x) : v = x.v := by
  unfold Prt.of at h; split at h
  · split at h
    · rename_i h1; simp only [Option.some.injEq] at h; subst h; rw [Prt.p_eq h1, List.append_nil]; rfl
    · cases h
  · cases h
def Prt.eqB (x y : Prt) : Bool := Ck.eqB x.c y.c && ((x.n == y.n) && true)
theorem Prt.eqB_iff {x y : Prt} : Prt.eqB x y = true ↔ x = y := by
  cases x; cases y
  simp only [Prt.eqB, Bool.and_eq_true, beq_iff_eq, Bool.and_true, and_true, Prt.mk.injEq, Ck.eqB_iff]
theorem Prt.eqB_self (x : Prt) : Prt.eqB x x = true := Prt.eqB_iff.2 rfl

structure Qua where
  cl : Int
  ac : Int
  va : Int
  deriving DecidableEq, Inhabited
def Qua.vs (x : Qua) : List V := [V.int .i64 (x.cl)] ++ ([V.int .i64 (x.ac)] ++ ([V.int .i64 (x.va)]))
def Qua.v (x : Qua) : V := .agg x.vs
def Qua.zero : Qua := ⟨0, 0, 0⟩
def Qua.p (l0 : List V) : Option (Qua × List V) :=
  match pI l0 with
  | none => none
  | some (a0, l1) =>
    match pI l1 with
    | none => none
    | some (a1, l2) =>
      match pI l2 with
      | none => none
      | some (a2, l3) =>
        some (⟨a0, a1, a2⟩, l3)
theorem Qua.p_eq {l0 r : List V} {x : Qua} (h : Qua.p l0 = some (x, r)) : l0 = x.vs ++ r := by
  unfold Qua.p at h
  split at h
  · cases h
  rename_i a0 l1 h0
  split at h
  · cases h
  rename_i a1 l2 h1
  split at h
  · cases h
  rename_i a2 l3 h2
  simp only [Option.some.injEq, Prod.mk.injEq] at h
  obtain ⟨rfl, rfl⟩ := h
  rw [pI_eq h0, pI_eq h1, pI_eq h2]
  simp only [Qua.vs, List.append_assoc]
def Qua.of : V → Option Qua
  | .agg l => match Qua.p l with
    | some (x, []) => some x
    | _ => none
  | _ => none
theorem Qua.of_eq {v : V} {x : Qua} (h : Qua.of v = some x) : v = x.v := by
  unfold Qua.of at h; split at h
  · split at h
    · rename_i h1; simp only [Option.some.injEq] at h; subst h; rw [Qua.p_eq h1, List.append_nil]; rfl
    · cases h
  · cases h
def Qua.eqB (x y : Qua) : Bool := (x.cl == y.cl) && ((x.ac == y.ac) && ((x.va == y.va) && true))
theorem Qua.eqB_iff {x y : Qua} : Qua.eqB x y = true ↔ x = y := by
  cases x; cases y
  simp only [Qua.eqB, Bool.and_eq_true, beq_iff_eq, Bool.and_true, and_true, Qua.mk.injEq]
theorem Qua.eqB_self (x : Qua) : Qua.eqB x x = true := Qua.eqB_iff.2 rfl

structure Ste where
  p1 : Int
  p2 : Int
  q : Qua
  g : Ck
  st : Int
  snd : Prt
  rcv : Prt
  deriving DecidableEq, Inhabited
def Ste.vs (x : Ste) : List V := [V.int .i64 (x.p1)] ++ ([V.int .i64 (x.p2)] ++ ((x.q).vs ++ ((x.g).vs ++ ([V.int .i64 (x.st)] ++ ((x.snd).vs ++ ((x.rcv).vs))))))
def Ste.v (x : Ste) : V := .agg x.vs
def Ste.zero : Ste := ⟨0, 0, Qua.zero, Ck.zero, 0, Prt.zero, Prt.zero⟩
def Ste.p (l0 : List V) : Option (Ste × List V) :=
  match pI l0 with
  | none => none
  | some (a0, l1) =>
    match pI l1 with
    | none => none
    | some (a1, l2) =>
      match Qua.p l2 with
      | none => none
      | some (a2, l3) =>
        match Ck.p l3 with
        | none => none
        | some (a3, l4) =>
          match pI l4 with
          | none => none
          | some (a4, l5) =>
            match Prt.p l5 with
            | none => none
            | some (a5, l6) =>
              match Prt.p l6 with
              | none => none
              | some (a6, l7) =>
                some (⟨a0, a1, a2, a3, a4, a5, a6⟩, l7)
theorem Ste.p_eq {l0 r : List V} {x : Ste} (h : Ste.p l0 = some (x, r)) : l0 = x.vs ++ r := by
  unfold Ste.p at h
  split at h
  · cases h
  rename_i a0 l1 h0
  split at h
  · cases h
  rename_i a1 l2 h1
  split at h
  · cases h
  rename_i a2 l3 h2
  split at h
  · cases h
  rename_i a3 l4 h3
  split at h
  · cases h
  rename_i a4 l5 h4
  split at h
  · cases h
  rename_i a5 l6 h5
  split at h
  · cases h
  rename_i a6 l7 h6
  simp only [Option.some.injEq, Prod.mk.injEq] at h
  obtain ⟨rfl, rfl⟩ := h
  rw [pI_eq h0, pI_eq h1, Qua.p_eq h2, Ck.p_eq h3, pI_eq h4, Prt.p_eq h5, Prt.p_eq h6]
  simp only [Ste.vs, List.append_assoc]
def Ste.of : V → Option Ste
  | .agg l => match Ste.p l with
    | some (x, []) => some x
    | _ => none
  | _ => none
theorem Ste.of_eq {v : V} {x : Ste} (h : Ste.of v = some x) : v = x.v := by
  unfold Ste.of at h; split at h
  · split at h
    · rename_i h1; simp only [Option.some.injEq] at h; subst h; rw [Ste.p_eq h1, List.append_nil]; rfl
    · cases h
  · cases h
def Ste.eqB (x y : Ste) : Bool := (x.p1 == y.p1) && ((x.p2 == y.p2) && (Qua.eqB x.q y.q && (Ck.eqB x.g y.g && ((x.st == y.st) && (Prt.eqB x.snd y.snd && (Prt.eqB x.rcv y.rcv && true))))))
theorem Ste.eqB_iff {x y : Ste} : Ste.eqB x y = true ↔ x = y := by
  cases x; cases y
  simp only [Ste.eqB, Bool.and_eq_true, beq_iff_eq, Bool.and_true, and_true, Ste.mk.injEq, Ck.eqB_iff, Prt.eqB_iff, Qua.eqB_iff]
theorem Ste.eqB_self (x : Ste) : Ste.eqB x x = true := Ste.eqB_iff.2 rfl

structure Hd where
  ty : Int
  dom : Int
  fl : Int
  co : Int
  src : Prt
  se : Int
  lo : Int
  deriving DecidableEq, Inhabited
def Hd.vs (x : Hd) : List V := [V.int .i64 (x.ty)] ++ ([V.int .i64 (x.dom)] ++ ([V.int .i64 (x.fl)] ++ ([V.int .i64 (x.co)] ++ ((x.src).vs ++ ([V.int .i64 (x.se)] ++ ([V.int .i64 (x.lo)]))))))
def Hd.v (x : Hd) : V := .agg x.vs
def Hd.zero : Hd := ⟨0, 0, 0, 0, Prt.zero, 0, 0⟩
def Hd.p (l0 : List V) : Option (Hd × List V) :=
  match pI l0 with
  | none => none
  | some (a0, l1) =>
    match pI l1 with
    | none => none
    | some (a1, l2) =>
      match pI l2 with
      | none => none
      | some (a2, l3) =>
        match pI l3 with
        | none => none
        | some (a3, l4) =>
          match Prt.p l4 with
          | none => none
          | some (a4, l5) =>
            match pI l5 with
            | none => none
            | some (a5, l6) =>
              match pI l6 with
              | none => none
              | some (a6, l7) =>
                some (⟨a0, a1, a2, a3, a4, a5, a6⟩, l7)
theorem Hd.p_eq {l0 r : List V} {x : Hd} (h : Hd.p l0 = some (x, r)) : l0 = x.vs ++ r := by
  unfold Hd.p at h
  split at h
  · cases h
  rename_i a0 l1 h0
  split at h
  · cases h
  rename_i a1 l2 h1
  split at h
  · cases h
  rename_i a2 l3 h2
  split at h
  · cases h
  rename_i a3 l4 h3
  split at h
  · cases h
  rename_i a4 l5 h4
  split at h
  · cases h
  rename_i a5 l6 h5
  split at h
  · cases h
  rename_i a6 l7 h6
  simp only [Option.some.injEq, Prod.mk.injEq] at h
  obtain ⟨rfl, rfl⟩ := h
  rw [pI_eq h0, pI_eq h1, pI_eq h2, pI_eq h3, Prt.p_eq h4, pI_eq h5, pI_eq h6]
  simp only [Hd.vs, List.append_assoc]
def Hd.of : V → Option Hd
  | .agg l => match Hd.p l with
    | some (x, []) => some x
    | _ => none
  | _ => none
theorem Hd.of_eq {v : V} {x : Hd} (h : Hd.of v = some x) : v = x.v := by
  unfold Hd.of at h; split at h
  · split at h
    · rename_i h1; simp only [Option.some.injEq] at h; subst h; rw [Hd.p_eq h1, List.append_nil]; rfl
    · cases h
  · cases h
def Hd.eqB (x y : Hd) : Bool := (x.ty == y.ty) && ((x.dom == y.dom) && ((x.fl == y.fl) && ((x.co == y.co) && (Prt.eqB x.src y.src && ((x.se == y.se) && ((x.lo == y.lo) && true))))))
theorem Hd.eqB_iff {x y : Hd} : Hd.eqB x y = true ↔ x = y := by
  cases x; cases y
  simp only [Hd.eqB, Bool.and_eq_true, beq_iff_eq, Bool.and_true, and_true, Hd.mk.injEq, Prt.eqB_iff]
theorem Hd.eqB_self (x : Hd) : Hd.eqB x x = true := Hd.eqB_iff.2 rfl

structure Stm where
  sec : Int
  ns : Int
  deriving DecidableEq, Inhabited
def Stm.vs (x : Stm) : List V := [V.int .i64 (x.sec)] ++ ([V.int .i64 (x.ns)])
def Stm.v (x : Stm) : V := .agg x.vs
def Stm.zero : Stm := ⟨0, 0⟩
def Stm.p (l0 : List V) : Option (Stm × List V) :=
  match pI l0 with
  | none => none
  | some (a0, l1) =>
    match pI l1 with
    | none => none
    | some (a1, l2) =>
      some (⟨a0, a1⟩, l2)
theorem Stm.p_eq {l0 r : List V} {x : Stm} (h : Stm.p l0 = some (x, r)) : l0 = x.vs ++ r := by
  unfold Stm.p at h
  split at h
  · cases h
  rename_i a0 l1 h0
  split at h
  · cases h
  rename_i a1 l2 h1
  simp only [Option.some.injEq, Prod.mk.injEq] at h
  obtain ⟨rfl, rfl⟩ := h
  rw [pI_eq h0, pI_eq h1]
  simp only [Stm.vs, List.append_assoc]
def Stm.of : V → Option Stm
  | .agg l => match Stm.p l with
    | some (x, []) => some x
    | _ => none
  | _ => none
theorem Stm.of_eq {v : V} {x : Stm} (h : Stm.of v = some x) : v = x.v := by
  unfold Stm.of at h; split at h
  · split at h
    · rename_i h1; simp only [Option.some.injEq] at h; subst h; rw [Stm.p_eq h1, List.append_nil]; rfl
    · cases h
  · cases h
def Stm.eqB (x y : Stm) : Bool := (x.sec == y.sec) && ((x.ns == y.ns) && true)
theorem Stm.eqB_iff {x y : Stm} : Stm.eqB x y = true ↔ x = y := by
  cases x; cases y
  simp only [Stm.eqB, Bool.and_eq_true, beq_iff_eq, Bool.and_true, and_true, Stm.mk.injEq]
theorem Stm.eqB_self (x : Stm) : Stm.eqB x x = true := Stm.eqB_iff.2 rfl

structure Msg where
  h : Hd
  t : Stm
  ask : Prt
  off : Int
  set : Ste
  src : Int
  deriving DecidableEq, Inhabited
def Msg.vs (x : Msg) : List V := (x.h).vs ++ ((x.t).vs ++ ((x.ask).vs ++ ([V.int .i64 (x.off)] ++ ((x.set).vs ++ ([V.int .i64 (x.src)])))))
def Msg.v (x : Msg) : V := .agg x.vs
def Msg.zero : Msg := ⟨Hd.zero, Stm.zero, Prt.zero, 0, Ste.zero, 0⟩
def Msg.p (l0 : List V) : Option (Msg × List V) :=
  match Hd.p l0 with
  | none => none
  | some (a0, l1) =>
    match Stm.p l1 with
    | none => none
    | some (a1, l2) =>
      match Prt.p l2 with
      | none => none
      | some (a2, l3) =>
        match pI l3 with
        | none => none
        | some (a3, l4) =>
          match Ste.p l4 with
          | none => none
          | some (a4, l5) =>
            match pI l5 with
            | none => none
            | some (a5, l6) =>
              some (⟨a0, a1, a2, a3, a4, a5⟩, l6)
theorem Msg.p_eq {l0 r : List V} {x : Msg} (h : Msg.p l0 = some (x, r)) : l0 = x.vs ++ r := by
  unfold Msg.p at h
  split at h
  · cases h
  rename_i a0 l1 h0
  split at h
  · cases h
  rename_i a1 l2 h1
  split at h
  · cases h
  rename_i a2 l3 h2
  split at h
  · cases h
  rename_i a3 l4 h3
  split at h
  · cases h
  rename_i a4 l5 h4
  split at h
  · cases h
  rename_i a5 l6 h5
  simp only [Option.some.injEq, Prod.mk.injEq] at h
  obtain ⟨rfl, rfl⟩ := h
  rw [Hd.p_eq h0, Stm.p_eq h1, Prt.p_eq h2, pI_eq h3, Ste.p_eq h4, pI_eq h5]
  simp only [Msg.vs, List.append_assoc]
def Msg.of : V → Option Msg
  | .agg l => match Msg.p l with
    | some (x, []) => some x
    | _ => none
  | _ => none
theorem Msg.of_eq {v : V} {x : Msg} (h : Msg.of v = some x) : v = x.v := by
  unfold Msg.of at h; split at h
  · split at h
    · rename_i h1; simp only [Option.some.injEq] at h; subst h; rw [Msg.p_eq h1, List.append_nil]; rfl
    · cases h
  · cases h
def Msg.eqB (x y : Msg) : Bool := Hd.eqB x.h y.h && (Stm.eqB x.t y.t && (Prt.eqB x.ask y.ask && ((x.off == y.off) && (Ste.eqB x.set y.set && ((x.src == y.src) && true)))))
theorem Msg.eqB_iff {x y : Msg} : Msg.eqB x y = true ↔ x = y := by
  cases x; cases y
  simp only [Msg.eqB, Bool.and_eq_true, beq_iff_eq, Bool.and_true, and_true, Msg.mk.injEq, Hd.eqB_iff, Prt.eqB_iff, Ste.eqB_iff, Stm.eqB_iff]
theorem Msg.eqB_self (x : Msg) : Msg.eqB x x = true := Msg.eqB_iff.2 rfl

structure Nte where
  off : Int
  l61 : Bool
  l59 : Bool
  va : Bool
  deriving DecidableEq, Inhabited
def Nte.vs (x : Nte) : List V := [V.int .i64 (x.off)] ++ ([V.bool (x.l61)] ++ ([V.bool (x.l59)] ++ ([V.bool (x.va)])))
def Nte.v (x : Nte) : V := .agg x.vs
def Nte.zero : Nte := ⟨0, false, false, false⟩
def Nte.p (l0 : List V) : Option (Nte × List V) :=
  match pI l0 with
  | none => none
  | some (a0, l1) =>
    match pB l1 with
    | none => none
    | some (a1, l2) =>
      match pB l2 with
      | none => none
      | some (a2, l3) =>
        match pB l3 with
        | none => none
        | some (a3, l4) =>
          some (⟨a0, a1, a2, a3⟩, l4)
theorem Nte.p_eq {l0 r : List V} {x : Nte} (h : Nte.p l0 = some (x, r)) : l0 = x.vs ++ r := by
  unfold Nte.p at h
  split at h
  · cases h
  rename_i a0 l1 h0
  split at h
  · cases h
  rename_i a1 l2 h1
  split at h
  · cases h
  rename_i a2 l3 h2
  split at h
  · cases h
  rename_i a3 l4 h3
  simp only [Option.some.injEq, Prod.mk.injEq] at h
  obtain ⟨rfl, rfl⟩ := h
  rw [pI_eq h0, pB_eq h1, pB_eq h2, pB_eq h3]
  simp only [Nte.vs, List.append_assoc]
def Nte.of : V → Option Nte
  | .agg l => match Nte.p l with
    | some (x, []) => some x
    | _ => none
  | _ => none
theorem Nte.of_eq {v : V} {x : Nte} (h : Nte.of v = some x) : v = x.v := by
  unfold Nte.of at h; split at h
  · split at h
    · rename_i h1; simp only [Option.some.injEq] at h; subst h; rw [Nte.p_eq h1, List.append_nil]; rfl
    · cases h
  · cases h
def Nte.eqB (x y : Nte) : Bool := (x.off == y.off) && ((x.l61 == y.l61) && ((x.l59 == y.l59) && ((x.va == y.va) && true)))
theorem Nte.eqB_iff {x y : Nte} : Nte.eqB x y = true ↔ x = y := by
  cases x; cases y
  simp only [Nte.eqB, Bool.and_eq_true, beq_iff_eq, Bool.and_true, and_true, Nte.mk.injEq]
theorem Nte.eqB_self (x : Nte) : Nte.eqB x x = true := Nte.eqB_iff.2 rfl

structure Sts where
  st : Int
  par : Prt
  g : Ste
  nt : Nte
  ptp : Bool
  tra : Bool
  fre : Bool
  src : Int
  deriving DecidableEq, Inhabited
def Sts.vs (x : Sts) : List V := [V.int .i64 (x.st)] ++ ((x.par).vs ++ ((x.g).vs ++ ((x.nt).vs ++ ([V.bool (x.ptp)] ++ ([V.bool (x.tra)] ++ ([V.bool (x.fre)] ++ ([V.int .i64 (x.src)])))))))
def Sts.v (x : Sts) : V := .agg x.vs
def Sts.zero : Sts := ⟨0, Prt.zero, Ste.zero, Nte.zero, false, false, false, 0⟩
def Sts.p (l0 : List V) : Option (Sts × List V) :=
  match pI l0 with
  | none => none
  | some (a0, l1) =>
    match Prt.p l1 with
    | none => none
    | some (a1, l2) =>
      match Ste.p l2 with
      | none => none
      | some (a2, l3) =>
        match Nte.p l3 with
        | none => none
        | some (a3, l4) =>
          match pB l4 with
          | none => none
          | some (a4, l5) =>
            match pB l5 with
            | none => none
            | some (a5, l6) =>
              match pB l6 with
              | none => none
              | some (a6, l7) =>
                match pI l7 with
                | none => none
                | some (a7, l8) =>
                  some (⟨a0, a1, a2, a3, a4, a5, a6, a7⟩, l8)
theorem Sts.p_eq {l0 r : List V} {x : Sts} (h : Sts.p l0 = some (x, r)) : l0 = x.vs ++ r := by
  unfold Sts.p at h
  split at h
  · cases h
  rename_i a0 l1 h0
  split at h
  · cases h
  rename_i a1 l2 h1
  split at h
  · cases h
  rename_i a2 l3 h2
  split at h
  · cases h
  rename_i a3 l4 h3
  split at h
  · cases h
  rename_i a4 l5 h4
  split at h
  · cases h
  rename_i a5 l6 h5
  split at h
  · cases h
  rename_i a6 l7 h6
  split at h
  · cases h
  rename_i a7 l8 h7
  simp only [Option.some.injEq, Prod.mk.injEq] at h
  obtain ⟨rfl, rfl⟩ := h
  rw [pI_eq h0, Prt.p_eq h1, Ste.p_eq h2, Nte.p_eq h3, pB_eq h4, pB_eq h5, pB_eq h6, pI_eq h7]
  simp only [Sts.vs, List.append_assoc]
def Sts.of : V → Option Sts
  | .agg l => match Sts.p l with
    | some (x, []) => some x
    | _ => none
  | _ => none
theorem Sts.of_eq {v : V} {x : Sts} (h : Sts.of v = some x) : v = x.v := by
  unfold Sts.of at h; split at h
  · split at h
    · rename_i h1; simp only [Option.some.injEq] at h; subst h; rw [Sts.p_eq h1, List.append_nil]; rfl
    · cases h
  · cases h
def Sts.eqB (x y : Sts) : Bool := (x.st == y.st) && (Prt.eqB x.par y.par && (Ste.eqB x.g y.g && (Nte.eqB x.nt y.nt && ((x.ptp == y.ptp) && ((x.tra == y.tra) && ((x.fre == y.fre) && ((x.src == y.src) && true)))))))
theorem Sts.eqB_iff {x y : Sts} : Sts.eqB x y = true ↔ x = y := by
  cases x; cases y
  simp only [Sts.eqB, Bool.and_eq_true, beq_iff_eq, Bool.and_true, and_true, Sts.mk.injEq, Nte.eqB_iff, Prt.eqB_iff, Ste.eqB_iff]
theorem Sts.eqB_self (x : Sts) : Sts.eqB x x = true := Sts.eqB_iff.2 rfl

structure Pth where
  mn : Int
  mx : Int
  gr : Int
  deriving DecidableEq, Inhabited
def Pth.vs (x : Pth) : List V := [V.int .i64 (x.mn)] ++ ([V.int .i64 (x.mx)] ++ ([V.int .i64 (x.gr)]))
def Pth.v (x : Pth) : V := .agg x.vs
def Pth.zero : Pth := ⟨0, 0, 0⟩
def Pth.p (l0 : List V) : Option (Pth × List V) :=
  match pI l0 with
  | none => none
  | some (a0, l1) =>
    match pI l1 with
    | none => none
    | some (a1, l2) =>
      match pI l2 with
      | none => none
      | some (a2, l3) =>
        some (⟨a0, a1, a2⟩, l3)
theorem Pth.p_eq {l0 r : List V} {x : Pth} (h : Pth.p l0 = some (x, r)) : l0 = x.vs ++ r := by
  unfold Pth.p at h
  split at h
  · cases h
  rename_i a0 l1 h0
  split at h
  · cases h
  rename_i a1 l2 h1
  split at h
  · cases h
  rename_i a2 l3 h2
  simp only [Option.some.injEq, Prod.mk.injEq] at h
  obtain ⟨rfl, rfl⟩ := h
  rw [pI_eq h0, pI_eq h1, pI_eq h2]
  simp only [Pth.vs, List.append_assoc]
def Pth.of : V → Option Pth
  | .agg l => match Pth.p l with
    | some (x, []) => some x
    | _ => none
  | _ => none
theorem Pth.of_eq {v : V} {x : Pth} (h : Pth.of v = some x) : v = x.v := by
  unfold Pth.of at h; split at h
  · split at h
    · rename_i h1; simp only [Option.some.injEq] at h; subst h; rw [Pth.p_eq h1, List.append_nil]; rfl
    · cases h
  · cases h
def Pth.eqB (x y : Pth) : Bool := (x.mn == y.mn) && ((x.mx == y.mx) && ((x.gr == y.gr) && true))
theorem Pth.eqB_iff {x y : Pth} : Pth.eqB x y = true ↔ x = y := by
  cases x; cases y
  simp only [Pth.eqB, Bool.and_eq_true, beq_iff_eq, Bool.and_true, and_true, Pth.mk.injEq]
theorem Pth.eqB_self (x : Pth) : Pth.eqB x x = true := Pth.eqB_iff.2 rfl

structure Pot where
  ev : Int
  of_ : Int
  ask : Int
  pa : Pth
  deriving DecidableEq, Inhabited
def Pot.vs (x : Pot) : List V := [V.int .i64 (x.ev)] ++ ([V.int .i64 (x.of_)] ++ ([V.int .i64 (x.ask)] ++ ((x.pa).vs)))
def Pot.v (x : Pot) : V := .agg x.vs
def Pot.zero : Pot := ⟨0, 0, 0, Pth.zero⟩
def Pot.p (l0 : List V) : Option (Pot × List V) :=
  match pI l0 with
  | none => none
  | some (a0, l1) =>
    match pI l1 with
    | none => none
    | some (a1, l2) =>
      match pI l2 with
      | none => none
      | some (a2, l3) =>
        match Pth.p l3 with
        | none => none
        | some (a3, l4) =>
          some (⟨a0, a1, a2, a3⟩, l4)
theorem Pot.p_eq {l0 r : List V} {x : Pot} (h : Pot.p l0 = some (x, r)) : l0 = x.vs ++ r := by
  unfold Pot.p at h
  split at h
  · cases h
  rename_i a0 l1 h0
  split at h
  · cases h
  rename_i a1 l2 h1
  split at h
  · cases h
  rename_i a2 l3 h2
  split at h
  · cases h
  rename_i a3 l4 h3
  simp only [Option.some.injEq, Prod.mk.injEq] at h
  obtain ⟨rfl, rfl⟩ := h
  rw [pI_eq h0, pI_eq h1, pI_eq h2, Pth.p_eq h3]
  simp only [Pot.vs, List.append_assoc]
def Pot.of : V → Option Pot
  | .agg l => match Pot.p l with
    | some (x, []) => some x
    | _ => none
  | _ => none
theorem Pot.of_eq {v : V} {x : Pot} (h : Pot.of v = some x) : v = x.v := by
  unfold Pot.of at h; split at h
  · split at h
    · rename_i h1; simp only [Option.some.injEq] at h; subst h; rw [Pot.p_eq h1, List.append_nil]; rfl
    · cases h
  · cases h
def Pot.eqB (x y : Pot) : Bool := (x.ev == y.ev) && ((x.of_ == y.of_) && ((x.ask == y.ask) && (Pth.eqB x.pa y.pa && true)))
theorem Pot.eqB_iff {x y : Pot} : Pot.eqB x y = true ↔ x = y := by
  cases x; cases y
  simp only [Pot.eqB, Bool.and_eq_true, beq_iff_eq, Bool.and_true, and_true, Pot.mk.injEq, Pth.eqB_iff]
theorem Pot.eqB_self (x : Pot) : Pot.eqB x x = true := Pot.eqB_iff.2 rfl

structure Cfh where
  id : Ck
  dom : Int
  p1 : Int
  p2 : Int
  q : Qua
  ppb : Int
  sl : Bool
  deriving DecidableEq, Inhabited
def Cfh.vs (x : Cfh) : List V := (x.id).vs ++ ([V.int .i64 (x.dom)] ++ ([V.int .i64 (x.p1)] ++ ([V.int .i64 (x.p2)] ++ ((x.q).vs ++ ([V.int .i64 (x.ppb)] ++ ([V.bool (x.sl)]))))))
def Cfh.v (x : Cfh) : V := .agg x.vs
def Cfh.zero : Cfh := ⟨Ck.zero, 0, 0, 0, Qua.zero, 0, false⟩
def Cfh.p (l0 : List V) : Option (Cfh × List V) :=
  match Ck.p l0 with
  | none => none
  | some (a0, l1) =>
    match pI l1 with
    | none => none
    | some (a1, l2) =>
      match pI l2 with
      | none => none
      | some (a2, l3) =>
        match pI l3 with
        | none => none
        | some (a3, l4) =>
          match Qua.p l4 with
          | none => none
          | some (a4, l5) =>
            match pI l5 with
            | none => none
            | some (a5, l6) =>
              match pB l6 with
              | none => none
              | some (a6, l7) =>
                some (⟨a0, a1, a2, a3, a4, a5, a6⟩, l7)
theorem Cfh.p_eq {l0 r : List V} {x : Cfh} (h : Cfh.p l0 = some (x, r)) : l0 = x.vs ++ r := by
  unfold Cfh.p at h
  split at h
  · cases h
  rename_i a0 l1 h0
  split at h
  · cases h
  rename_i a1 l2 h1
  split at h
  · cases h
  rename_i a2 l3 h2
  split at h
  · cases h
  rename_i a3 l4 h3
  split at h
  · cases h
  rename_i a4 l5 h4
  split at h
  · cases h
  rename_i a5 l6 h5
  split at h
  · cases h
  rename_i a6 l7 h6
  simp only [Option.some.injEq, Prod.mk.injEq] at h
  obtain ⟨rfl, rfl⟩ := h
  rw [Ck.p_eq h0, pI_eq h1, pI_eq h2, pI_eq h3, Qua.p_eq h4, pI_eq h5, pB_eq h6]
  simp only [Cfh.vs, List.append_assoc]
def Cfh.of : V → Option Cfh
  | .agg l => match Cfh.p l with
    | some (x, []) => some x
    | _ => none
  | _ => none
theorem Cfh.of_eq {v : V} {x : Cfh} (h : Cfh.of v = some x) : v = x.v := by
  unfold Cfh.of at h; split at h
  · split at h
    · rename_i h1; simp only [Option.some.injEq] at h; subst h; rw [Cfh.p_eq h1, List.append_nil]; rfl
    · cases h
  · cases h
def Cfh.eqB (x y : Cfh) : Bool := Ck.eqB x.id y.id && ((x.dom == y.dom) && ((x.p1 == y.p1) && ((x.p2 == y.p2) && (Qua.eqB x.q y.q && ((x.ppb == y.ppb) && ((x.sl == y.sl) && true))))))
theorem Cfh.eqB_iff {x y : Cfh} : Cfh.eqB x y = true ↔ x = y := by
  cases x; cases y
  simp only [Cfh.eqB, Bool.and_eq_true, beq_iff_eq, Bool.and_true, and_true, Cfh.mk.injEq, Ck.eqB_iff, Qua.eqB_iff]
theorem Cfh.eqB_self (x : Cfh) : Cfh.eqB x x = true := Cfh.eqB_iff.2 rfl

structure Lab where
  y : Int
  mo : Int
  d : Int
  h : Int
  mi : Int
  s : Int
  deriving DecidableEq, Inhabited
def Lab.vs (x : Lab) : List V := [V.int .i64 (x.y)] ++ ([V.int .i64 (x.mo)] ++ ([V.int .i64 (x.d)] ++ ([V.int .i64 (x.h)] ++ ([V.int .i64 (x.mi)] ++ ([V.int .i64 (x.s)])))))
def Lab.v (x : Lab) : V := .agg x.vs
def Lab.zero : Lab := ⟨0, 0, 0, 0, 0, 0⟩
def Lab.p (l0 : List V) : Option (Lab × List V) :=
  match pI l0 with
  | none => none
  | some (a0, l1) =>
    match pI l1 with
    | none => none
    | some (a1, l2) =>
      match pI l2 with
      | none => none
      | some (a2, l3) =>
        match pI l3 with
        | none => none
        | some (a3, l4) =>
          match pI l4 with
          | none => none
          | some (a4, l5) =>
            match pI l5 with
            | none => none
            | some (a5, l6) =>
              some (⟨a0, a1, a2, a3, a4, a5⟩, l6)
theorem Lab.p_eq {l0 r : List V} {x : Lab} (h : Lab.p l0 = some (x, r)) : l0 = x.vs ++ r := by
  unfold Lab.p at h
  split at h
  · cases h
  rename_i a0 l1 h0
  split at h
  · cases h
  rename_i a1 l2 h1
  split at h
  · cases h
  rename_i a2 l3 h2
  split at h
  · cases h
  rename_i a3 l4 h3
  split at h
  · cases h
  rename_i a4 l5 h4
  split at h
  · cases h
  rename_i a5 l6 h5
  simp only [Option.some.injEq, Prod.mk.injEq] at h
  obtain ⟨rfl, rfl⟩ := h
  rw [pI_eq h0, pI_eq h1, pI_eq h2, pI_eq h3, pI_eq h4, pI_eq h5]
  simp only [Lab.vs, List.append_assoc]
def Lab.of : V → Option Lab
  | .agg l => match Lab.p l with
    | some (x, []) => some x
    | _ => none
  | _ => none
theorem Lab.of_eq {v : V} {x : Lab} (h : Lab.of v = some x) : v = x.v := by
  unfold Lab.of at h; split at h
  · split at h
    · rename_i h1; simp only [Option.some.injEq] at h; subst h; rw [Lab.p_eq h1, List.append_nil]; rfl
    · cases h
  · cases h
def Lab.eqB (x y : Lab) : Bool := (x.y == y.y) && ((x.mo == y.mo) && ((x.d == y.d) && ((x.h == y.h) && ((x.mi == y.mi) && ((x.s == y.s) && true)))))
theorem Lab.eqB_iff {x y : Lab} : Lab.eqB x y = true ↔ x = y := by
  cases x; cases y
  simp only [Lab.eqB, Bool.and_eq_true, beq_iff_eq, Bool.and_true, and_true, Lab.mk.injEq]
theorem Lab.eqB_self (x : Lab) : Lab.eqB x x = true := Lab.eqB_iff.2 rfl

/-- A specification that is told of known truth values as of others. -/
def Spec.N (s : Spec) : Spec := fun a b => s (nrm.nrms a) (b.map nrmB)
theorem SpecOK.N [Glob] {P : Program} {k : FuncId} {s : Spec} (h : SpecOK P k s) : SpecOK P k s.N := by
  refine ⟨?_, h.good⟩
  intro args bs r hr ρ xs w hx hbs
  have hb : BsRel ρ (bs.map nrmB) w := by
    refine ⟨fun b bl hbl => ?_, fun b c s t hb hc lk => hbs.2.1 b c s t hb hc (by rw [List.getElem?_map, List.getElem?_map, look_nrm, look_nrm] at lk; exact lk), fun b hb => hbs.2.2.1 b (by simpa using hb), hbs.2.2.2⟩
    rw [List.getElem?_map] at hbl
    obtain ⟨bl', h1, rfl⟩ := Option.map_eq_some_iff.1 hbl
    obtain ⟨s, h2, h3⟩ := hbs.1 b bl' h1
    exact ⟨s, h2, (nrmB_rel bl').2 h3⟩
  have := h.correct _ _ r hr ρ xs w ((nrms_rel args xs.toList).2 hx) hb
  simpa using this

/-- A function gone through where it is called. -/
theorem inl_ok [Glob] {P : Program} {l : List (Nat × Spec)} (hΓ : GammaOK P l) (hm : P.follows .mixedOrders = true) {Λ : Nat → Option LSpec} {k : FuncId} {fn : Func} (hfn : P.funcs[k]? = some fn) (hg : goodFn fn = true)
    (hΛ : LoopsOK P Λ (bodyOf fn)) : SpecOK P k (fFn P (specsOf l) Λ fn) :=
  specOK_fast hΓ hm hfn hg hΛ fun _ _ _ h => denN_of h

theorem resB {a b : Bool} {u : List (Option (Option Blk))} {n : List Blk} (h : a = b) : some (Res.nrm ⟨.bool a, u, n⟩) = some (Res.nrm ⟨.bool b, u, n⟩) := by rw [h]
theorem denI {α : Type} (b : Bool) (x y : Tree α) : (Tree.ite b x y).den = if b = true then x.den else y.den := by cases b <;> rfl
theorem denLf {α : Type} (x : α) : (Tree.leaf x).den = some x := rfl
end Go.Rx

namespace Go.Rx
open Go.ChangeShapes Go.WideShapes Go.ChangeAt Go.RowKit
def toLook : Blk → Blk
  | .rows sch rs => .look sch rs
  | bl => bl
end Go.Rx

namespace Go.Rx
def unLook : Blk → Blk
  | .look sch rs => .rows sch rs
  | bl => bl
theorem brel_unLook {ρ : Rho} {s : Seg} {bl : Blk} {w : World} (r : BRel ρ s bl w) : BRel ρ s (unLook bl) w := by
  cases bl with
  | look sch rs => exact r.flat rfl
  | _ => exact r
/-- At most one of them is read only. -/
def oneLook : List Blk → Bool
  | [] => true
  | b :: l => match isLook b with
    | true => l.all fun x => !isLook x
    | false => oneLook l
theorem no_look {l : List Blk} (h : (l.all fun x => !isLook x) = true) (i : Nat) : lookO l[i]? = false := by
  cases hi : l[i]? with
  | none => rfl
  | some x =>
    have := List.all_eq_true.1 h x (List.mem_of_getElem? hi)
    show isLook x = false
    simpa using this
theorem oneLook_eq : ∀ {l : List Blk}, oneLook l = true → ∀ {b c : Nat}, lookO l[b]? = true → lookO l[c]? = true → b = c
  | [], _, b, c, hb, _ => by simp [lookO] at hb
  | x :: l, h, b, c, hb, hc => by
    unfold oneLook at h
    cases hx : isLook x with
    | true =>
      rw [hx] at h
      have h : (l.all fun x => !isLook x) = true := h
      cases b with
      | zero => cases c with
        | zero => rfl
        | succ c => simp only [List.getElem?_cons_succ] at hc; rw [no_look h] at hc; cases hc
      | succ b => simp only [List.getElem?_cons_succ] at hb; rw [no_look h] at hb; cases hb
    | false =>
      rw [hx] at h
      have h : oneLook l = true := h
      cases b with
      | zero => simp only [List.getElem?_cons_zero, lookO, hx] at hb; cases hb
      | succ b => cases c with
        | zero => simp only [List.getElem?_cons_zero, lookO, hx] at hc; cases hc
        | succ c => simp only [List.getElem?_cons_succ] at hb hc; rw [oneLook_eq h hb hc]
def Spec.L (s : Spec) : Spec := fun a b => .lit (oneLook b) (s a (b.map unLook))
theorem SpecOK.L [Glob] {P : Program} {k : FuncId} {s : Spec} (h : SpecOK P k s) : SpecOK P k s.L := by
  refine ⟨?_, h.good⟩
  intro args bs r hr ρ xs w hx hbs
  unfold Spec.L at hr
  rw [den_lit] at hr
  obtain ⟨h1, hr⟩ := hr
  have hb : BsRel ρ (bs.map unLook) w := by
    refine ⟨fun b bl hbl => ?_, fun b c s t hb hc lk r1 r2 he => ?_, fun b hb => hbs.2.2.1 b (by simpa using hb), hbs.2.2.2⟩
    · rw [List.getElem?_map] at hbl
      obtain ⟨bl', h1, rfl⟩ := Option.map_eq_some_iff.1 hbl
      obtain ⟨s, h2, h3⟩ := hbs.1 b bl' h1
      exact ⟨s, h2, brel_unLook h3⟩
    · cases q : lookO bs[b]? && lookO bs[c]? with
      | false => exact hbs.2.1 b c s t hb hc q r1 r2 he
      | true =>
        rw [Bool.and_eq_true] at q
        exact oneLook_eq h1 q.1 q.2
  have := h.correct _ _ r hr ρ xs w hx hb
  simpa using this
end Go.Rx
