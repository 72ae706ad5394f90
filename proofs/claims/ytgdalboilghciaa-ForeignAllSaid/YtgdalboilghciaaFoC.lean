/- Layer 8: a table's plain methods; hearing. The conditions stand in the specifications. -/
import Derived.Test.YtgdalboilghciaaFoB
set_option linter.unusedSimpArgs false
set_option linter.unusedVariables false
set_option linter.unnecessarySimpa false
set_option linter.unusedSectionVars false
set_option maxRecDepth 100000
set_option linter.unusedSimpArgs false
set_option linter.unusedVariables false
namespace Go.Proofs.Ytgdalboilghciaa
open Go.Rx
/-- Which entry is a port's. -/
def chainE (p : Prt) : TabE → Nat → (Nat → Tree Res) → Tree Res → Tree Res
  | [], _, _, z => z
  | e :: r, i, f, z => .ite (p.eqB e.1) (f i) (chainE p r (i + 1) f z)
def lastE (p : Prt) : TabE → Ste × Int × Bool
  | [] => (Ste.zero, 0, false)
  | e :: r => match p.eqB e.1 with
    | true => (e.2.s, e.2.t0, true)
    | false => lastE p r
def noneU (n : Nat) : List (Option (Option Blk)) := none :: none :: List.replicate n none
def kvU (n : Nat) (ks vs : List V) : List (Option (Option Blk)) := none :: some (some (.kv ks vs)) :: List.replicate n none
def laR (p : Prt) (es : TabE) : Tree Res := .leaf ⟨.tup [.agg (lastE p es).1.vs, .int .i64 (lastE p es).2.1, .bool (lastE p es).2.2], noneU es.length, []⟩
def laS : Rx.Spec := fun a b => match a, tabP b with
  | [.ptr 0 0 0 0, q], some (own, win, es) => match Prt.of q with
    | some p => .lit (Nat.ble es.length 5) (laR p es)
    | none => .fail
  | _, _ => .fail
noncomputable abbrev laG : List (Nat × Rx.Spec) := [(21, fFn P (specsOf []) (loopsOf []) Try.f21)]
theorem laG_ok : GammaOK P laG := .cons (inl_ok (GammaOK.nil P) hm Try.func21 (by kernel_rfl) (LoopsOK.nil (by kernel_rfl))) (.nil P)
def keysB (es : TabE) : List V := es.map fun x => x.1.v
def drR (p : Prt) (es : TabE) : Tree Res :=
  chainE p es 0 (fun i => .leaf ⟨.tru, kvU es.length ((keysB es).eraseIdx i) ((ptrsF 2 es.length).eraseIdx i), []⟩) (.leaf ⟨.fls, kvU es.length (keysB es) (ptrsF 2 es.length), []⟩)
def drS : Rx.Spec := fun a b => match a, tabP b with
  | [.ptr 0 0 0 0, q], some (own, win, es) => match Prt.of q with
    | some p => .lit (Nat.ble es.length 5) (drR p es)
    | none => .fail
  | _, _ => .fail
def leS : Rx.Spec := fun a b => match a, tabP b with
  | [.ptr 0 0 0 0], some (own, win, es) => .lit (Nat.ble es.length 5) (.leaf ⟨.int .i64 (Int.ofNat es.length), noneU es.length, []⟩)
  | _, _ => .fail
def clS : Rx.Spec := fun a b => match a, tabP b with
  | [.ptr 0 0 0 0], some (own, win, es) => .lit (Nat.ble es.length 5) (.leaf ⟨.tup [], kvU es.length [] [], []⟩)
  | _, _ => .fail
theorem la_0 (own : Ck) (win : Int) (p : Prt)  : (fFn P (specsOf laG) (loopsOf []) Try.f20 [.ptr 0 0 0 0, p.v] (tabB own win [])).denN = (laR p []).denN := by
  rw [show (fFn P (specsOf laG) (loopsOf []) Try.f20 [.ptr 0 0 0 0, p.v] (tabB own win [])).denN = Tree.denN (Tree.leaf { v := V.tup [V.agg [V.int IntKind.i64 0, V.int IntKind.i64 0, V.int IntKind.i64 0, V.int IntKind.i64 0, V.int IntKind.i64 0, V.int IntKind.u8 0, V.int IntKind.u8 0, V.int IntKind.u8 0, V.int IntKind.u8 0, V.int IntKind.u8 0, V.int IntKind.u8 0, V.int IntKind.u8 0, V.int IntKind.u8 0, V.int IntKind.i64 0, V.int IntKind.u8 0, V.int IntKind.u8 0, V.int IntKind.u8 0, V.int IntKind.u8 0, V.int IntKind.u8 0, V.int IntKind.u8 0, V.int IntKind.u8 0, V.int IntKind.u8 0, V.int IntKind.i64 0, V.int IntKind.u8 0, V.int IntKind.u8 0, V.int IntKind.u8 0, V.int IntKind.u8 0, V.int IntKind.u8 0, V.int IntKind.u8 0, V.int IntKind.u8 0, V.int IntKind.u8 0, V.int IntKind.i64 0], V.int IntKind.i64 0, V.fls], upd := [none, none], new := [] }) from by kernel_rfl]
  rfl
theorem dr_0 (own : Ck) (win : Int) (p : Prt)  : (fFn P (specsOf []) (loopsOf []) Try.f25 [.ptr 0 0 0 0, p.v] (tabB own win [])).denN = (drR p []).denN := by
  rw [show (fFn P (specsOf []) (loopsOf []) Try.f25 [.ptr 0 0 0 0, p.v] (tabB own win [])).denN = Tree.denN (Tree.leaf { v := V.fls, upd := [none, some (some (Body.kv [] []))], new := [] }) from by kernel_rfl]
  rfl
theorem la_1 (own : Ck) (win : Int) (p : Prt) (p0 : Prt) (e0 : Ent) : (fFn P (specsOf laG) (loopsOf []) Try.f20 [.ptr 0 0 0 0, p.v] (tabB own win [(p0, e0)])).denN = (laR p [(p0, e0)]).denN := by
  rw [show (fFn P (specsOf laG) (loopsOf []) Try.f20 [.ptr 0 0 0 0, p.v] (tabB own win [(p0, e0)])).denN = Tree.denN (Tree.ite (Prt.eqB p p0) (Tree.leaf { v := V.tup [V.agg [V.int IntKind.i64 e0.s.1, V.int IntKind.i64 e0.s.2, V.int IntKind.i64 e0.s.q.1, V.int IntKind.i64 e0.s.q.2, V.int IntKind.i64 e0.s.q.3, V.int IntKind.u8 e0.s.g.1, V.int IntKind.u8 e0.s.g.2, V.int IntKind.u8 e0.s.g.3, V.int IntKind.u8 e0.s.g.4, V.int IntKind.u8 e0.s.g.5, V.int IntKind.u8 e0.s.g.6, V.int IntKind.u8 e0.s.g.7, V.int IntKind.u8 e0.s.g.8, V.int IntKind.i64 e0.s.5, V.int IntKind.u8 e0.s.snd.c.1, V.int IntKind.u8 e0.s.snd.c.2, V.int IntKind.u8 e0.s.snd.c.3, V.int IntKind.u8 e0.s.snd.c.4, V.int IntKind.u8 e0.s.snd.c.5, V.int IntKind.u8 e0.s.snd.c.6, V.int IntKind.u8 e0.s.snd.c.7, V.int IntKind.u8 e0.s.snd.c.8, V.int IntKind.i64 e0.s.snd.2, V.int IntKind.u8 e0.s.rcv.c.1, V.int IntKind.u8 e0.s.rcv.c.2, V.int IntKind.u8 e0.s.rcv.c.3, V.int IntKind.u8 e0.s.rcv.c.4, V.int IntKind.u8 e0.s.rcv.c.5, V.int IntKind.u8 e0.s.rcv.c.6, V.int IntKind.u8 e0.s.rcv.c.7, V.int IntKind.u8 e0.s.rcv.c.8, V.int IntKind.i64 e0.s.rcv.2], V.int IntKind.i64 (e0.t0), V.tru], upd := [none, none, none], new := [] }) (Tree.leaf { v := V.tup [V.agg [V.int IntKind.i64 0, V.int IntKind.i64 0, V.int IntKind.i64 0, V.int IntKind.i64 0, V.int IntKind.i64 0, V.int IntKind.u8 0, V.int IntKind.u8 0, V.int IntKind.u8 0, V.int IntKind.u8 0, V.int IntKind.u8 0, V.int IntKind.u8 0, V.int IntKind.u8 0, V.int IntKind.u8 0, V.int IntKind.i64 0, V.int IntKind.u8 0, V.int IntKind.u8 0, V.int IntKind.u8 0, V.int IntKind.u8 0, V.int IntKind.u8 0, V.int IntKind.u8 0, V.int IntKind.u8 0, V.int IntKind.u8 0, V.int IntKind.i64 0, V.int IntKind.u8 0, V.int IntKind.u8 0, V.int IntKind.u8 0, V.int IntKind.u8 0, V.int IntKind.u8 0, V.int IntKind.u8 0, V.int IntKind.u8 0, V.int IntKind.u8 0, V.int IntKind.i64 0], V.int IntKind.i64 0, V.fls], upd := [none, none, none], new := [] })) from by kernel_rfl]
  show _ = Tree.denN (Tree.leaf _)
  simp only [lastE]
  cases p.eqB p0
  · kernel_rfl
  · kernel_rfl
theorem dr_1 (own : Ck) (win : Int) (p : Prt) (p0 : Prt) (e0 : Ent) : (fFn P (specsOf []) (loopsOf []) Try.f25 [.ptr 0 0 0 0, p.v] (tabB own win [(p0, e0)])).denN = (drR p [(p0, e0)]).denN := by
  rw [show (fFn P (specsOf []) (loopsOf []) Try.f25 [.ptr 0 0 0 0, p.v] (tabB own win [(p0, e0)])).denN = Tree.denN (Tree.ite (Prt.eqB p p0) (Tree.ite (Prt.eqB p p0) (Tree.leaf { v := V.tru, upd := [none, some (some (Body.kv [] [])), none], new := [] }) (Tree.leaf { v := V.tru, upd := [none, some (some (Body.kv [p0.v] [V.ptr 2 0 0 0])), none], new := [] })) (Tree.ite (Prt.eqB p p0) (Tree.leaf { v := V.fls, upd := [none, some (some (Body.kv [] [])), none], new := [] }) (Tree.leaf { v := V.fls, upd := [none, some (some (Body.kv [p0.v] [V.ptr 2 0 0 0])), none], new := [] }))) from by kernel_rfl]
  simp only [drR, chainE]
  cases p.eqB p0
  · kernel_rfl
  · kernel_rfl
theorem la_2 (own : Ck) (win : Int) (p : Prt) (p0 : Prt) (e0 : Ent) (p1 : Prt) (e1 : Ent) : (fFn P (specsOf laG) (loopsOf []) Try.f20 [.ptr 0 0 0 0, p.v] (tabB own win [(p0, e0), (p1, e1)])).denN = (laR p [(p0, e0), (p1, e1)]).denN := by
  rw [show (fFn P (specsOf laG) (loopsOf []) Try.f20 [.ptr 0 0 0 0, p.v] (tabB own win [(p0, e0), (p1, e1)])).denN = Tree.denN (Tree.ite (Prt.eqB p p0) (Tree.leaf { v := V.tup [V.agg [V.int IntKind.i64 e0.s.1, V.int IntKind.i64 e0.s.2, V.int IntKind.i64 e0.s.q.1, V.int IntKind.i64 e0.s.q.2, V.int IntKind.i64 e0.s.q.3, V.int IntKind.u8 e0.s.g.1, V.int IntKind.u8 e0.s.g.2, V.int IntKind.u8 e0.s.g.3, V.int IntKind.u8 e0.s.g.4, V.int IntKind.u8 e0.s.g.5, V.int IntKind.u8 e0.s.g.6, V.int IntKind.u8 e0.s.g.7, V.int IntKind.u8 e0.s.g.8, V.int IntKind.i64 e0.s.5, V.int IntKind.u8 e0.s.snd.c.1, V.int IntKind.u8 e0.s.snd.c.2, V.int IntKind.u8 e0.s.snd.c.3, V.int IntKind.u8 e0.s.snd.c.4, V.int IntKind.u8 e0.s.snd.c.5, V.int IntKind.u8 e0.s.snd.c.6, V.int IntKind.u8 e0.s.snd.c.7, V.int IntKind.u8 e0.s.snd.c.8, V.int IntKind.i64 e0.s.snd.2, V.int IntKind.u8 e0.s.rcv.c.1, V.int IntKind.u8 e0.s.rcv.c.2, V.int IntKind.u8 e0.s.rcv.c.3, V.int IntKind.u8 e0.s.rcv.c.4, V.int IntKind.u8 e0.s.rcv.c.5, V.int IntKind.u8 e0.s.rcv.c.6, V.int IntKind.u8 e0.s.rcv.c.7, V.int IntKind.u8 e0.s.rcv.c.8, V.int IntKind.i64 e0.s.rcv.2], V.int IntKind.i64 (e0.t0), V.tru], upd := [none, none, none, none], new := [] }) (Tree.ite (Prt.eqB p p1) (Tree.leaf { v := V.tup [V.agg [V.int IntKind.i64 e1.s.1, V.int IntKind.i64 e1.s.2, V.int IntKind.i64 e1.s.q.1, V.int IntKind.i64 e1.s.q.2, V.int IntKind.i64 e1.s.q.3, V.int IntKind.u8 e1.s.g.1, V.int IntKind.u8 e1.s.g.2, V.int IntKind.u8 e1.s.g.3, V.int IntKind.u8 e1.s.g.4, V.int IntKind.u8 e1.s.g.5, V.int IntKind.u8 e1.s.g.6, V.int IntKind.u8 e1.s.g.7, V.int IntKind.u8 e1.s.g.8, V.int IntKind.i64 e1.s.5, V.int IntKind.u8 e1.s.snd.c.1, V.int IntKind.u8 e1.s.snd.c.2, V.int IntKind.u8 e1.s.snd.c.3, V.int IntKind.u8 e1.s.snd.c.4, V.int IntKind.u8 e1.s.snd.c.5, V.int IntKind.u8 e1.s.snd.c.6, V.int IntKind.u8 e1.s.snd.c.7, V.int IntKind.u8 e1.s.snd.c.8, V.int IntKind.i64 e1.s.snd.2, V.int IntKind.u8 e1.s.rcv.c.1, V.int IntKind.u8 e1.s.rcv.c.2, V.int IntKind.u8 e1.s.rcv.c.3, V.int IntKind.u8 e1.s.rcv.c.4, V.int IntKind.u8 e1.s.rcv.c.5, V.int IntKind.u8 e1.s.rcv.c.6, V.int IntKind.u8 e1.s.rcv.c.7, V.int IntKind.u8 e1.s.rcv.c.8, V.int IntKind.i64 e1.s.rcv.2], V.int IntKind.i64 (e1.t0), V.tru], upd := [none, none, none, none], new := [] }) (Tree.leaf { v := V.tup [V.agg [V.int IntKind.i64 0, V.int IntKind.i64 0, V.int IntKind.i64 0, V.int IntKind.i64 0, V.int IntKind.i64 0, V.int IntKind.u8 0, V.int IntKind.u8 0, V.int IntKind.u8 0, V.int IntKind.u8 0, V.int IntKind.u8 0, V.int IntKind.u8 0, V.int IntKind.u8 0, V.int IntKind.u8 0, V.int IntKind.i64 0, V.int IntKind.u8 0, V.int IntKind.u8 0, V.int IntKind.u8 0, V.int IntKind.u8 0, V.int IntKind.u8 0, V.int IntKind.u8 0, V.int IntKind.u8 0, V.int IntKind.u8 0, V.int IntKind.i64 0, V.int IntKind.u8 0, V.int IntKind.u8 0, V.int IntKind.u8 0, V.int IntKind.u8 0, V.int IntKind.u8 0, V.int IntKind.u8 0, V.int IntKind.u8 0, V.int IntKind.u8 0, V.int IntKind.i64 0], V.int IntKind.i64 0, V.fls], upd := [none, none, none, none], new := [] }))) from by kernel_rfl]
  show _ = Tree.denN (Tree.leaf _)
  simp only [lastE]
  cases p.eqB p0
  · cases p.eqB p1
    · kernel_rfl
    · kernel_rfl
  · kernel_rfl
theorem dr_2 (own : Ck) (win : Int) (p : Prt) (p0 : Prt) (e0 : Ent) (p1 : Prt) (e1 : Ent) : (fFn P (specsOf []) (loopsOf []) Try.f25 [.ptr 0 0 0 0, p.v] (tabB own win [(p0, e0), (p1, e1)])).denN = (drR p [(p0, e0), (p1, e1)]).denN := by
  rw [show (fFn P (specsOf []) (loopsOf []) Try.f25 [.ptr 0 0 0 0, p.v] (tabB own win [(p0, e0), (p1, e1)])).denN = Tree.denN (Tree.ite (Prt.eqB p p0) (Tree.ite (Prt.eqB p p0) (Tree.leaf { v := V.tru, upd := [none, some (some (Body.kv [p1.v] [V.ptr 3 0 0 0])), none, none], new := [] }) (Tree.ite (Prt.eqB p p1) (Tree.leaf { v := V.tru, upd := [none, some (some (Body.kv [p0.v] [V.ptr 2 0 0 0])), none, none], new := [] }) (Tree.leaf { v := V.tru, upd := [none, some (some (Body.kv [p0.v, p1.v] [V.ptr 2 0 0 0, V.ptr 3 0 0 0])), none, none], new := [] }))) (Tree.ite (Prt.eqB p p1) (Tree.ite (Prt.eqB p p0) (Tree.leaf { v := V.tru, upd := [none, some (some (Body.kv [p1.v] [V.ptr 3 0 0 0])), none, none], new := [] }) (Tree.ite (Prt.eqB p p1) (Tree.leaf { v := V.tru, upd := [none, some (some (Body.kv [p0.v] [V.ptr 2 0 0 0])), none, none], new := [] }) (Tree.leaf { v := V.tru, upd := [none, some (some (Body.kv [p0.v, p1.v] [V.ptr 2 0 0 0, V.ptr 3 0 0 0])), none, none], new := [] }))) (Tree.ite (Prt.eqB p p0) (Tree.leaf { v := V.fls, upd := [none, some (some (Body.kv [p1.v] [V.ptr 3 0 0 0])), none, none], new := [] }) (Tree.ite (Prt.eqB p p1) (Tree.leaf { v := V.fls, upd := [none, some (some (Body.kv [p0.v] [V.ptr 2 0 0 0])), none, none], new := [] }) (Tree.leaf { v := V.fls, upd := [none, some (some (Body.kv [p0.v, p1.v] [V.ptr 2 0 0 0, V.ptr 3 0 0 0])), none, none], new := [] }))))) from by kernel_rfl]
  simp only [drR, chainE]
  cases p.eqB p0
  · cases p.eqB p1
    · kernel_rfl
    · kernel_rfl
  · kernel_rfl
theorem la_3 (own : Ck) (win : Int) (p : Prt) (p0 : Prt) (e0 : Ent) (p1 : Prt) (e1 : Ent) (p2 : Prt) (e2 : Ent) : (fFn P (specsOf laG) (loopsOf []) Try.f20 [.ptr 0 0 0 0, p.v] (tabB own win [(p0, e0), (p1, e1), (p2, e2)])).denN = (laR p [(p0, e0), (p1, e1), (p2, e2)]).denN := by
  rw [show (fFn P (specsOf laG) (loopsOf []) Try.f20 [.ptr 0 0 0 0, p.v] (tabB own win [(p0, e0), (p1, e1), (p2, e2)])).denN = Tree.denN (Tree.ite (Prt.eqB p p0) (Tree.leaf { v := V.tup [V.agg [V.int IntKind.i64 e0.s.1, V.int IntKind.i64 e0.s.2, V.int IntKind.i64 e0.s.q.1, V.int IntKind.i64 e0.s.q.2, V.int IntKind.i64 e0.s.q.3, V.int IntKind.u8 e0.s.g.1, V.int IntKind.u8 e0.s.g.2, V.int IntKind.u8 e0.s.g.3, V.int IntKind.u8 e0.s.g.4, V.int IntKind.u8 e0.s.g.5, V.int IntKind.u8 e0.s.g.6, V.int IntKind.u8 e0.s.g.7, V.int IntKind.u8 e0.s.g.8, V.int IntKind.i64 e0.s.5, V.int IntKind.u8 e0.s.snd.c.1, V.int IntKind.u8 e0.s.snd.c.2, V.int IntKind.u8 e0.s.snd.c.3, V.int IntKind.u8 e0.s.snd.c.4, V.int IntKind.u8 e0.s.snd.c.5, V.int IntKind.u8 e0.s.snd.c.6, V.int IntKind.u8 e0.s.snd.c.7, V.int IntKind.u8 e0.s.snd.c.8, V.int IntKind.i64 e0.s.snd.2, V.int IntKind.u8 e0.s.rcv.c.1, V.int IntKind.u8 e0.s.rcv.c.2, V.int IntKind.u8 e0.s.rcv.c.3, V.int IntKind.u8 e0.s.rcv.c.4, V.int IntKind.u8 e0.s.rcv.c.5, V.int IntKind.u8 e0.s.rcv.c.6, V.int IntKind.u8 e0.s.rcv.c.7, V.int IntKind.u8 e0.s.rcv.c.8, V.int IntKind.i64 e0.s.rcv.2], V.int IntKind.i64 (e0.t0), V.tru], upd := [none, none, none, none, none], new := [] }) (Tree.ite (Prt.eqB p p1) (Tree.leaf { v := V.tup [V.agg [V.int IntKind.i64 e1.s.1, V.int IntKind.i64 e1.s.2, V.int IntKind.i64 e1.s.q.1, V.int IntKind.i64 e1.s.q.2, V.int IntKind.i64 e1.s.q.3, V.int IntKind.u8 e1.s.g.1, V.int IntKind.u8 e1.s.g.2, V.int IntKind.u8 e1.s.g.3, V.int IntKind.u8 e1.s.g.4, V.int IntKind.u8 e1.s.g.5, V.int IntKind.u8 e1.s.g.6, V.int IntKind.u8 e1.s.g.7, V.int IntKind.u8 e1.s.g.8, V.int IntKind.i64 e1.s.5, V.int IntKind.u8 e1.s.snd.c.1, V.int IntKind.u8 e1.s.snd.c.2, V.int IntKind.u8 e1.s.snd.c.3, V.int IntKind.u8 e1.s.snd.c.4, V.int IntKind.u8 e1.s.snd.c.5, V.int IntKind.u8 e1.s.snd.c.6, V.int IntKind.u8 e1.s.snd.c.7, V.int IntKind.u8 e1.s.snd.c.8, V.int IntKind.i64 e1.s.snd.2, V.int IntKind.u8 e1.s.rcv.c.1, V.int IntKind.u8 e1.s.rcv.c.2, V.int IntKind.u8 e1.s.rcv.c.3, V.int IntKind.u8 e1.s.rcv.c.4, V.int IntKind.u8 e1.s.rcv.c.5, V.int IntKind.u8 e1.s.rcv.c.6, V.int IntKind.u8 e1.s.rcv.c.7, V.int IntKind.u8 e1.s.rcv.c.8, V.int IntKind.i64 e1.s.rcv.2], V.int IntKind.i64 (e1.t0), V.tru], upd := [none, none, none, none, none], new := [] }) (Tree.ite (Prt.eqB p p2) (Tree.leaf { v := V.tup [V.agg [V.int IntKind.i64 e2.s.1, V.int IntKind.i64 e2.s.2, V.int IntKind.i64 e2.s.q.1, V.int IntKind.i64 e2.s.q.2, V.int IntKind.i64 e2.s.q.3, V.int IntKind.u8 e2.s.g.1, V.int IntKind.u8 e2.s.g.2, V.int IntKind.u8 e2.s.g.3, V.int IntKind.u8 e2.s.g.4, V.int IntKind.u8 e2.s.g.5, V.int IntKind.u8 e2.s.g.6, V.int IntKind.u8 e2.s.g.7, V.int IntKind.u8 e2.s.g.8, V.int IntKind.i64 e2.s.5, V.int IntKind.u8 e2.s.snd.c.1, V.int IntKind.u8 e2.s.snd.c.2, V.int IntKind.u8 e2.s.snd.c.3, V.int IntKind.u8 e2.s.snd.c.4, V.int IntKind.u8 e2.s.snd.c.5, V.int IntKind.u8 e2.s.snd.c.6, V.int IntKind.u8 e2.s.snd.c.7, V.int IntKind.u8 e2.s.snd.c.8, V.int IntKind.i64 e2.s.snd.2, V.int IntKind.u8 e2.s.rcv.c.1, V.int IntKind.u8 e2.s.rcv.c.2, V.int IntKind.u8 e2.s.rcv.c.3, V.int IntKind.u8 e2.s.rcv.c.4, V.int IntKind.u8 e2.s.rcv.c.5, V.int IntKind.u8 e2.s.rcv.c.6, V.int IntKind.u8 e2.s.rcv.c.7, V.int IntKind.u8 e2.s.rcv.c.8, V.int IntKind.i64 e2.s.rcv.2], V.int IntKind.i64 (e2.t0), V.tru], upd := [none, none, none, none, none], new := [] }) (Tree.leaf { v := V.tup [V.agg [V.int IntKind.i64 0, V.int IntKind.i64 0, V.int IntKind.i64 0, V.int IntKind.i64 0, V.int IntKind.i64 0, V.int IntKind.u8 0, V.int IntKind.u8 0, V.int IntKind.u8 0, V.int IntKind.u8 0, V.int IntKind.u8 0, V.int IntKind.u8 0, V.int IntKind.u8 0, V.int IntKind.u8 0, V.int IntKind.i64 0, V.int IntKind.u8 0, V.int IntKind.u8 0, V.int IntKind.u8 0, V.int IntKind.u8 0, V.int IntKind.u8 0, V.int IntKind.u8 0, V.int IntKind.u8 0, V.int IntKind.u8 0, V.int IntKind.i64 0, V.int IntKind.u8 0, V.int IntKind.u8 0, V.int IntKind.u8 0, V.int IntKind.u8 0, V.int IntKind.u8 0, V.int IntKind.u8 0, V.int IntKind.u8 0, V.int IntKind.u8 0, V.int IntKind.i64 0], V.int IntKind.i64 0, V.fls], upd := [none, none, none, none, none], new := [] })))) from by kernel_rfl]
  show _ = Tree.denN (Tree.leaf _)
  simp only [lastE]
  cases p.eqB p0
  · cases p.eqB p1
    · cases p.eqB p2
      · kernel_rfl
      · kernel_rfl
    · kernel_rfl
  · kernel_rfl
theorem dr_3 (own : Ck) (win : Int) (p : Prt) (p0 : Prt) (e0 : Ent) (p1 : Prt) (e1 : Ent) (p2 : Prt) (e2 : Ent) : (fFn P (specsOf []) (loopsOf []) Try.f25 [.ptr 0 0 0 0, p.v] (tabB own win [(p0, e0), (p1, e1), (p2, e2)])).denN = (drR p [(p0, e0), (p1, e1), (p2, e2)]).denN := by
  rw [show (fFn P (specsOf []) (loopsOf []) Try.f25 [.ptr 0 0 0 0, p.v] (tabB own win [(p0, e0), (p1, e1), (p2, e2)])).denN = Tree.denN (Tree.ite (Prt.eqB p p0) (Tree.ite (Prt.eqB p p0) (Tree.leaf { v := V.tru, upd := [none, some (some (Body.kv [p1.v, p2.v] [V.ptr 3 0 0 0, V.ptr 4 0 0 0])), none, none, none], new := [] }) (Tree.ite (Prt.eqB p p1) (Tree.leaf { v := V.tru, upd := [none, some (some (Body.kv [p0.v, p2.v] [V.ptr 2 0 0 0, V.ptr 4 0 0 0])), none, none, none], new := [] }) (Tree.ite (Prt.eqB p p2) (Tree.leaf { v := V.tru, upd := [none, some (some (Body.kv [p0.v, p1.v] [V.ptr 2 0 0 0, V.ptr 3 0 0 0])), none, none, none], new := [] }) (Tree.leaf { v := V.tru, upd := [none, some (some (Body.kv [p0.v, p1.v, p2.v] [V.ptr 2 0 0 0, V.ptr 3 0 0 0, V.ptr 4 0 0 0])), none, none, none], new := [] })))) (Tree.ite (Prt.eqB p p1) (Tree.ite (Prt.eqB p p0) (Tree.leaf { v := V.tru, upd := [none, some (some (Body.kv [p1.v, p2.v] [V.ptr 3 0 0 0, V.ptr 4 0 0 0])), none, none, none], new := [] }) (Tree.ite (Prt.eqB p p1) (Tree.leaf { v := V.tru, upd := [none, some (some (Body.kv [p0.v, p2.v] [V.ptr 2 0 0 0, V.ptr 4 0 0 0])), none, none, none], new := [] }) (Tree.ite (Prt.eqB p p2) (Tree.leaf { v := V.tru, upd := [none, some (some (Body.kv [p0.v, p1.v] [V.ptr 2 0 0 0, V.ptr 3 0 0 0])), none, none, none], new := [] }) (Tree.leaf { v := V.tru, upd := [none, some (some (Body.kv [p0.v, p1.v, p2.v] [V.ptr 2 0 0 0, V.ptr 3 0 0 0, V.ptr 4 0 0 0])), none, none, none], new := [] })))) (Tree.ite (Prt.eqB p p2) (Tree.ite (Prt.eqB p p0) (Tree.leaf { v := V.tru, upd := [none, some (some (Body.kv [p1.v, p2.v] [V.ptr 3 0 0 0, V.ptr 4 0 0 0])), none, none, none], new := [] }) (Tree.ite (Prt.eqB p p1) (Tree.leaf { v := V.tru, upd := [none, some (some (Body.kv [p0.v, p2.v] [V.ptr 2 0 0 0, V.ptr 4 0 0 0])), none, none, none], new := [] }) (Tree.ite (Prt.eqB p p2) (Tree.leaf { v := V.tru, upd := [none, some (some (Body.kv [p0.v, p1.v] [V.ptr 2 0 0 0, V.ptr 3 0 0 0])), none, none, none], new := [] }) (Tree.leaf { v := V.tru, upd := [none, some (some (Body.kv [p0.v, p1.v, p2.v] [V.ptr 2 0 0 0, V.ptr 3 0 0 0, V.ptr 4 0 0 0])), none, none, none], new := [] })))) (Tree.ite (Prt.eqB p p0) (Tree.leaf { v := V.fls, upd := [none, some (some (Body.kv [p1.v, p2.v] [V.ptr 3 0 0 0, V.ptr 4 0 0 0])), none, none, none], new := [] }) (Tree.ite (Prt.eqB p p1) (Tree.leaf { v := V.fls, upd := [none, some (some (Body.kv [p0.v, p2.v] [V.ptr 2 0 0 0, V.ptr 4 0 0 0])), none, none, none], new := [] }) (Tree.ite (Prt.eqB p p2) (Tree.leaf { v := V.fls, upd := [none, some (some (Body.kv [p0.v, p1.v] [V.ptr 2 0 0 0, V.ptr 3 0 0 0])), none, none, none], new := [] }) (Tree.leaf { v := V.fls, upd := [none, some (some (Body.kv [p0.v, p1.v, p2.v] [V.ptr 2 0 0 0, V.ptr 3 0 0 0, V.ptr 4 0 0 0])), none, none, none], new := [] }))))))) from by kernel_rfl]
  simp only [drR, chainE]
  cases p.eqB p0
  · cases p.eqB p1
    · cases p.eqB p2
      · kernel_rfl
      · kernel_rfl
    · kernel_rfl
  · kernel_rfl
theorem la_4 (own : Ck) (win : Int) (p : Prt) (p0 : Prt) (e0 : Ent) (p1 : Prt) (e1 : Ent) (p2 : Prt) (e2 : Ent) (p3 : Prt) (e3 : Ent) : (fFn P (specsOf laG) (loopsOf []) Try.f20 [.ptr 0 0 0 0, p.v] (tabB own win [(p0, e0), (p1, e1), (p2, e2), (p3, e3)])).denN = (laR p [(p0, e0), (p1, e1), (p2, e2), (p3, e3)]).denN := by
  rw [show (fFn P (specsOf laG) (loopsOf []) Try.f20 [.ptr 0 0 0 0, p.v] (tabB own win [(p0, e0), (p1, e1), (p2, e2), (p3, e3)])).denN = Tree.denN (Tree.ite (Prt.eqB p p0) (Tree.leaf { v := V.tup [V.agg [V.int IntKind.i64 e0.s.1, V.int IntKind.i64 e0.s.2, V.int IntKind.i64 e0.s.q.1, V.int IntKind.i64 e0.s.q.2, V.int IntKind.i64 e0.s.q.3, V.int IntKind.u8 e0.s.g.1, V.int IntKind.u8 e0.s.g.2, V.int IntKind.u8 e0.s.g.3, V.int IntKind.u8 e0.s.g.4, V.int IntKind.u8 e0.s.g.5, V.int IntKind.u8 e0.s.g.6, V.int IntKind.u8 e0.s.g.7, V.int IntKind.u8 e0.s.g.8, V.int IntKind.i64 e0.s.5, V.int IntKind.u8 e0.s.snd.c.1, V.int IntKind.u8 e0.s.snd.c.2, V.int IntKind.u8 e0.s.snd.c.3, V.int IntKind.u8 e0.s.snd.c.4, V.int IntKind.u8 e0.s.snd.c.5, V.int IntKind.u8 e0.s.snd.c.6, V.int IntKind.u8 e0.s.snd.c.7, V.int IntKind.u8 e0.s.snd.c.8, V.int IntKind.i64 e0.s.snd.2, V.int IntKind.u8 e0.s.rcv.c.1, V.int IntKind.u8 e0.s.rcv.c.2, V.int IntKind.u8 e0.s.rcv.c.3, V.int IntKind.u8 e0.s.rcv.c.4, V.int IntKind.u8 e0.s.rcv.c.5, V.int IntKind.u8 e0.s.rcv.c.6, V.int IntKind.u8 e0.s.rcv.c.7, V.int IntKind.u8 e0.s.rcv.c.8, V.int IntKind.i64 e0.s.rcv.2], V.int IntKind.i64 (e0.t0), V.tru], upd := [none, none, none, none, none, none], new := [] }) (Tree.ite (Prt.eqB p p1) (Tree.leaf { v := V.tup [V.agg [V.int IntKind.i64 e1.s.1, V.int IntKind.i64 e1.s.2, V.int IntKind.i64 e1.s.q.1, V.int IntKind.i64 e1.s.q.2, V.int IntKind.i64 e1.s.q.3, V.int IntKind.u8 e1.s.g.1, V.int IntKind.u8 e1.s.g.2, V.int IntKind.u8 e1.s.g.3, V.int IntKind.u8 e1.s.g.4, V.int IntKind.u8 e1.s.g.5, V.int IntKind.u8 e1.s.g.6, V.int IntKind.u8 e1.s.g.7, V.int IntKind.u8 e1.s.g.8, V.int IntKind.i64 e1.s.5, V.int IntKind.u8 e1.s.snd.c.1, V.int IntKind.u8 e1.s.snd.c.2, V.int IntKind.u8 e1.s.snd.c.3, V.int IntKind.u8 e1.s.snd.c.4, V.int IntKind.u8 e1.s.snd.c.5, V.int IntKind.u8 e1.s.snd.c.6, V.int IntKind.u8 e1.s.snd.c.7, V.int IntKind.u8 e1.s.snd.c.8, V.int IntKind.i64 e1.s.snd.2, V.int IntKind.u8 e1.s.rcv.c.1, V.int IntKind.u8 e1.s.rcv.c.2, V.int IntKind.u8 e1.s.rcv.c.3, V.int IntKind.u8 e1.s.rcv.c.4, V.int IntKind.u8 e1.s.rcv.c.5, V.int IntKind.u8 e1.s.rcv.c.6, V.int IntKind.u8 e1.s.rcv.c.7, V.int IntKind.u8 e1.s.rcv.c.8, V.int IntKind.i64 e1.s.rcv.2], V.int IntKind.i64 (e1.t0), V.tru], upd := [none, none, none, none, none, none], new := [] }) (Tree.ite (Prt.eqB p p2) (Tree.leaf { v := V.tup [V.agg [V.int IntKind.i64 e2.s.1, V.int IntKind.i64 e2.s.2, V.int IntKind.i64 e2.s.q.1, V.int IntKind.i64 e2.s.q.2, V.int IntKind.i64 e2.s.q.3, V.int IntKind.u8 e2.s.g.1, V.int IntKind.u8 e2.s.g.2, V.int IntKind.u8 e2.s.g.3, V.int IntKind.u8 e2.s.g.4, V.int IntKind.u8 e2.s.g.5, V.int IntKind.u8 e2.s.g.6, V.int IntKind.u8 e2.s.g.7, V.int IntKind.u8 e2.s.g.8, V.int IntKind.i64 e2.s.5, V.int IntKind.u8 e2.s.snd.c.1, V.int IntKind.u8 e2.s.snd.c.2, V.int IntKind.u8 e2.s.snd.c.3, V.int IntKind.u8 e2.s.snd.c.4, V.int IntKind.u8 e2.s.snd.c.5, V.int IntKind.u8 e2.s.snd.c.6, V.int IntKind.u8 e2.s.snd.c.7, V.int IntKind.u8 e2.s.snd.c.8, V.int IntKind.i64 e2.s.snd.2, V.int IntKind.u8 e2.s.rcv.c.1, V.int IntKind.u8 e2.s.rcv.c.2, V.int IntKind.u8 e2.s.rcv.c.3, V.int IntKind.u8 e2.s.rcv.c.4, V.int IntKind.u8 e2.s.rcv.c.5, V.int IntKind.u8 e2.s.rcv.c.6, V.int IntKind.u8 e2.s.rcv.c.7, V.int IntKind.u8 e2.s.rcv.c.8, V.int IntKind.i64 e2.s.rcv.2], V.int IntKind.i64 (e2.t0), V.tru], upd := [none, none, none, none, none, none], new := [] }) (Tree.ite (Prt.eqB p p3) (Tree.leaf { v := V.tup [V.agg [V.int IntKind.i64 e3.s.1, V.int IntKind.i64 e3.s.2, V.int IntKind.i64 e3.s.q.1, V.int IntKind.i64 e3.s.q.2, V.int IntKind.i64 e3.s.q.3, V.int IntKind.u8 e3.s.g.1, V.int IntKind.u8 e3.s.g.2, V.int IntKind.u8 e3.s.g.3, V.int IntKind.u8 e3.s.g.4, V.int IntKind.u8 e3.s.g.5, V.int IntKind.u8 e3.s.g.6, V.int IntKind.u8 e3.s.g.7, V.int IntKind.u8 e3.s.g.8, V.int IntKind.i64 e3.s.5, V.int IntKind.u8 e3.s.snd.c.1, V.int IntKind.u8 e3.s.snd.c.2, V.int IntKind.u8 e3.s.snd.c.3, V.int IntKind.u8 e3.s.snd.c.4, V.int IntKind.u8 e3.s.snd.c.5, V.int IntKind.u8 e3.s.snd.c.6, V.int IntKind.u8 e3.s.snd.c.7, V.int IntKind.u8 e3.s.snd.c.8, V.int IntKind.i64 e3.s.snd.2, V.int IntKind.u8 e3.s.rcv.c.1, V.int IntKind.u8 e3.s.rcv.c.2, V.int IntKind.u8 e3.s.rcv.c.3, V.int IntKind.u8 e3.s.rcv.c.4, V.int IntKind.u8 e3.s.rcv.c.5, V.int IntKind.u8 e3.s.rcv.c.6, V.int IntKind.u8 e3.s.rcv.c.7, V.int IntKind.u8 e3.s.rcv.c.8, V.int IntKind.i64 e3.s.rcv.2], V.int IntKind.i64 (e3.t0), V.tru], upd := [none, none, none, none, none, none], new := [] }) (Tree.leaf { v := V.tup [V.agg [V.int IntKind.i64 0, V.int IntKind.i64 0, V.int IntKind.i64 0, V.int IntKind.i64 0, V.int IntKind.i64 0, V.int IntKind.u8 0, V.int IntKind.u8 0, V.int IntKind.u8 0, V.int IntKind.u8 0, V.int IntKind.u8 0, V.int IntKind.u8 0, V.int IntKind.u8 0, V.int IntKind.u8 0, V.int IntKind.i64 0, V.int IntKind.u8 0, V.int IntKind.u8 0, V.int IntKind.u8 0, V.int IntKind.u8 0, V.int IntKind.u8 0, V.int IntKind.u8 0, V.int IntKind.u8 0, V.int IntKind.u8 0, V.int IntKind.i64 0, V.int IntKind.u8 0, V.int IntKind.u8 0, V.int IntKind.u8 0, V.int IntKind.u8 0, V.int IntKind.u8 0, V.int IntKind.u8 0, V.int IntKind.u8 0, V.int IntKind.u8 0, V.int IntKind.i64 0], V.int IntKind.i64 0, V.fls], upd := [none, none, none, none, none, none], new := [] }))))) from by kernel_rfl]
  show _ = Tree.denN (Tree.leaf _)
  simp only [lastE]
  cases p.eqB p0
  · cases p.eqB p1
    · cases p.eqB p2
      · cases p.eqB p3
        · kernel_rfl
        · kernel_rfl
      · kernel_rfl
    · kernel_rfl
  · kernel_rfl
theorem dr_4 (own : Ck) (win : Int) (p : Prt) (p0 : Prt) (e0 : Ent) (p1 : Prt) (e1 : Ent) (p2 : Prt) (e2 : Ent) (p3 : Prt) (e3 : Ent) : (fFn P (specsOf []) (loopsOf []) Try.f25 [.ptr 0 0 0 0, p.v] (tabB own win [(p0, e0), (p1, e1), (p2, e2), (p3, e3)])).denN = (drR p [(p0, e0), (p1, e1), (p2, e2), (p3, e3)]).denN := by
  rw [show (fFn P (specsOf []) (loopsOf []) Try.f25 [.ptr 0 0 0 0, p.v] (tabB own win [(p0, e0), (p1, e1), (p2, e2), (p3, e3)])).denN = Tree.denN (Tree.ite (Prt.eqB p p0) (Tree.ite (Prt.eqB p p0) (Tree.leaf { v := V.tru, upd := [none, some (some (Body.kv [p1.v, p2.v, p3.v] [V.ptr 3 0 0 0, V.ptr 4 0 0 0, V.ptr 5 0 0 0])), none, none, none, none], new := [] }) (Tree.ite (Prt.eqB p p1) (Tree.leaf { v := V.tru, upd := [none, some (some (Body.kv [p0.v, p2.v, p3.v] [V.ptr 2 0 0 0, V.ptr 4 0 0 0, V.ptr 5 0 0 0])), none, none, none, none], new := [] }) (Tree.ite (Prt.eqB p p2) (Tree.leaf { v := V.tru, upd := [none, some (some (Body.kv [p0.v, p1.v, p3.v] [V.ptr 2 0 0 0, V.ptr 3 0 0 0, V.ptr 5 0 0 0])), none, none, none, none], new := [] }) (Tree.ite (Prt.eqB p p3) (Tree.leaf { v := V.tru, upd := [none, some (some (Body.kv [p0.v, p1.v, p2.v] [V.ptr 2 0 0 0, V.ptr 3 0 0 0, V.ptr 4 0 0 0])), none, none, none, none], new := [] }) (Tree.leaf { v := V.tru, upd := [none, some (some (Body.kv [p0.v, p1.v, p2.v, p3.v] [V.ptr 2 0 0 0, V.ptr 3 0 0 0, V.ptr 4 0 0 0, V.ptr 5 0 0 0])), none, none, none, none], new := [] }))))) (Tree.ite (Prt.eqB p p1) (Tree.ite (Prt.eqB p p0) (Tree.leaf { v := V.tru, upd := [none, some (some (Body.kv [p1.v, p2.v, p3.v] [V.ptr 3 0 0 0, V.ptr 4 0 0 0, V.ptr 5 0 0 0])), none, none, none, none], new := [] }) (Tree.ite (Prt.eqB p p1) (Tree.leaf { v := V.tru, upd := [none, some (some (Body.kv [p0.v, p2.v, p3.v] [V.ptr 2 0 0 0, V.ptr 4 0 0 0, V.ptr 5 0 0 0])), none, none, none, none], new := [] }) (Tree.ite (Prt.eqB p p2) (Tree.leaf { v := V.tru, upd := [none, some (some (Body.kv [p0.v, p1.v, p3.v] [V.ptr 2 0 0 0, V.ptr 3 0 0 0, V.ptr 5 0 0 0])), none, none, none, none], new := [] }) (Tree.ite (Prt.eqB p p3) (Tree.leaf { v := V.tru, upd := [none, some (some (Body.kv [p0.v, p1.v, p2.v] [V.ptr 2 0 0 0, V.ptr 3 0 0 0, V.ptr 4 0 0 0])), none, none, none, none], new := [] }) (Tree.leaf { v := V.tru, upd := [none, some (some (Body.kv [p0.v, p1.v, p2.v, p3.v] [V.ptr 2 0 0 0, V.ptr 3 0 0 0, V.ptr 4 0 0 0, V.ptr 5 0 0 0])), none, none, none, none], new := [] }))))) (Tree.ite (Prt.eqB p p2) (Tree.ite (Prt.eqB p p0) (Tree.leaf { v := V.tru, upd := [none, some (some (Body.kv [p1.v, p2.v, p3.v] [V.ptr 3 0 0 0, V.ptr 4 0 0 0, V.ptr 5 0 0 0])), none, none, none, none], new := [] }) (Tree.ite (Prt.eqB p p1) (Tree.leaf { v := V.tru, upd := [none, some (some (Body.kv [p0.v, p2.v, p3.v] [V.ptr 2 0 0 0, V.ptr 4 0 0 0, V.ptr 5 0 0 0])), none, none, none, none], new := [] }) (Tree.ite (Prt.eqB p p2) (Tree.leaf { v := V.tru, upd := [none, some (some (Body.kv [p0.v, p1.v, p3.v] [V.ptr 2 0 0 0, V.ptr 3 0 0 0, V.ptr 5 0 0 0])), none, none, none, none], new := [] }) (Tree.ite (Prt.eqB p p3) (Tree.leaf { v := V.tru, upd := [none, some (some (Body.kv [p0.v, p1.v, p2.v] [V.ptr 2 0 0 0, V.ptr 3 0 0 0, V.ptr 4 0 0 0])), none, none, none, none], new := [] }) (Tree.leaf { v := V.tru, upd := [none, some (some (Body.kv [p0.v, p1.v, p2.v, p3.v] [V.ptr 2 0 0 0, V.ptr 3 0 0 0, V.ptr 4 0 0 0, V.ptr 5 0 0 0])), none, none, none, none], new := [] }))))) (Tree.ite (Prt.eqB p p3) (Tree.ite (Prt.eqB p p0) (Tree.leaf { v := V.tru, upd := [none, some (some (Body.kv [p1.v, p2.v, p3.v] [V.ptr 3 0 0 0, V.ptr 4 0 0 0, V.ptr 5 0 0 0])), none, none, none, none], new := [] }) (Tree.ite (Prt.eqB p p1) (Tree.leaf { v := V.tru, upd := [none, some (some (Body.kv [p0.v, p2.v, p3.v] [V.ptr 2 0 0 0, V.ptr 4 0 0 0, V.ptr 5 0 0 0])), none, none, none, none], new := [] }) (Tree.ite (Prt.eqB p p2) (Tree.leaf { v := V.tru, upd := [none, some (some (Body.kv [p0.v, p1.v, p3.v] [V.ptr 2 0 0 0, V.ptr 3 0 0 0, V.ptr 5 0 0 0])), none, none, none, none], new := [] }) (Tree.ite (Prt.eqB p p3) (Tree.leaf { v := V.tru, upd := [none, some (some (Body.kv [p0.v, p1.v, p2.v] [V.ptr 2 0 0 0, V.ptr 3 0 0 0, V.ptr 4 0 0 0])), none, none, none, none], new := [] }) (Tree.leaf { v := V.tru, upd := [none, some (some (Body.kv [p0.v, p1.v, p2.v, p3.v] [V.ptr 2 0 0 0, V.ptr 3 0 0 0, V.ptr 4 0 0 0, V.ptr 5 0 0 0])), none, none, none, none], new := [] }))))) (Tree.ite (Prt.eqB p p0) (Tree.leaf { v := V.fls, upd := [none, some (some (Body.kv [p1.v, p2.v, p3.v] [V.ptr 3 0 0 0, V.ptr 4 0 0 0, V.ptr 5 0 0 0])), none, none, none, none], new := [] }) (Tree.ite (Prt.eqB p p1) (Tree.leaf { v := V.fls, upd := [none, some (some (Body.kv [p0.v, p2.v, p3.v] [V.ptr 2 0 0 0, V.ptr 4 0 0 0, V.ptr 5 0 0 0])), none, none, none, none], new := [] }) (Tree.ite (Prt.eqB p p2) (Tree.leaf { v := V.fls, upd := [none, some (some (Body.kv [p0.v, p1.v, p3.v] [V.ptr 2 0 0 0, V.ptr 3 0 0 0, V.ptr 5 0 0 0])), none, none, none, none], new := [] }) (Tree.ite (Prt.eqB p p3) (Tree.leaf { v := V.fls, upd := [none, some (some (Body.kv [p0.v, p1.v, p2.v] [V.ptr 2 0 0 0, V.ptr 3 0 0 0, V.ptr 4 0 0 0])), none, none, none, none], new := [] }) (Tree.leaf { v := V.fls, upd := [none, some (some (Body.kv [p0.v, p1.v, p2.v, p3.v] [V.ptr 2 0 0 0, V.ptr 3 0 0 0, V.ptr 4 0 0 0, V.ptr 5 0 0 0])), none, none, none, none], new := [] }))))))))) from by kernel_rfl]
  simp only [drR, chainE]
  cases p.eqB p0
  · cases p.eqB p1
    · cases p.eqB p2
      · cases p.eqB p3
        · kernel_rfl
        · kernel_rfl
      · kernel_rfl
    · kernel_rfl
  · kernel_rfl
theorem la_5 (own : Ck) (win : Int) (p : Prt) (p0 : Prt) (e0 : Ent) (p1 : Prt) (e1 : Ent) (p2 : Prt) (e2 : Ent) (p3 : Prt) (e3 : Ent) (p4 : Prt) (e4 : Ent) : (fFn P (specsOf laG) (loopsOf []) Try.f20 [.ptr 0 0 0 0, p.v] (tabB own win [(p0, e0), (p1, e1), (p2, e2), (p3, e3), (p4, e4)])).denN = (laR p [(p0, e0), (p1, e1), (p2, e2), (p3, e3), (p4, e4)]).denN := by
  rw [show (fFn P (specsOf laG) (loopsOf []) Try.f20 [.ptr 0 0 0 0, p.v] (tabB own win [(p0, e0), (p1, e1), (p2, e2), (p3, e3), (p4, e4)])).denN = Tree.denN (Tree.ite (Prt.eqB p p0) (Tree.leaf { v := V.tup [V.agg [V.int IntKind.i64 e0.s.1, V.int IntKind.i64 e0.s.2, V.int IntKind.i64 e0.s.q.1, V.int IntKind.i64 e0.s.q.2, V.int IntKind.i64 e0.s.q.3, V.int IntKind.u8 e0.s.g.1, V.int IntKind.u8 e0.s.g.2, V.int IntKind.u8 e0.s.g.3, V.int IntKind.u8 e0.s.g.4, V.int IntKind.u8 e0.s.g.5, V.int IntKind.u8 e0.s.g.6, V.int IntKind.u8 e0.s.g.7, V.int IntKind.u8 e0.s.g.8, V.int IntKind.i64 e0.s.5, V.int IntKind.u8 e0.s.snd.c.1, V.int IntKind.u8 e0.s.snd.c.2, V.int IntKind.u8 e0.s.snd.c.3, V.int IntKind.u8 e0.s.snd.c.4, V.int IntKind.u8 e0.s.snd.c.5, V.int IntKind.u8 e0.s.snd.c.6, V.int IntKind.u8 e0.s.snd.c.7, V.int IntKind.u8 e0.s.snd.c.8, V.int IntKind.i64 e0.s.snd.2, V.int IntKind.u8 e0.s.rcv.c.1, V.int IntKind.u8 e0.s.rcv.c.2, V.int IntKind.u8 e0.s.rcv.c.3, V.int IntKind.u8 e0.s.rcv.c.4, V.int IntKind.u8 e0.s.rcv.c.5, V.int IntKind.u8 e0.s.rcv.c.6, V.int IntKind.u8 e0.s.rcv.c.7, V.int IntKind.u8 e0.s.rcv.c.8, V.int IntKind.i64 e0.s.rcv.2], V.int IntKind.i64 (e0.t0), V.tru], upd := [none, none, none, none, none, none, none], new := [] }) (Tree.ite (Prt.eqB p p1) (Tree.leaf { v := V.tup [V.agg [V.int IntKind.i64 e1.s.1, V.int IntKind.i64 e1.s.2, V.int IntKind.i64 e1.s.q.1, V.int IntKind.i64 e1.s.q.2, V.int IntKind.i64 e1.s.q.3, V.int IntKind.u8 e1.s.g.1, V.int IntKind.u8 e1.s.g.2, V.int IntKind.u8 e1.s.g.3, V.int IntKind.u8 e1.s.g.4, V.int IntKind.u8 e1.s.g.5, V.int IntKind.u8 e1.s.g.6, V.int IntKind.u8 e1.s.g.7, V.int IntKind.u8 e1.s.g.8, V.int IntKind.i64 e1.s.5, V.int IntKind.u8 e1.s.snd.c.1, V.int IntKind.u8 e1.s.snd.c.2, V.int IntKind.u8 e1.s.snd.c.3, V.int IntKind.u8 e1.s.snd.c.4, V.int IntKind.u8 e1.s.snd.c.5, V.int IntKind.u8 e1.s.snd.c.6, V.int IntKind.u8 e1.s.snd.c.7, V.int IntKind.u8 e1.s.snd.c.8, V.int IntKind.i64 e1.s.snd.2, V.int IntKind.u8 e1.s.rcv.c.1, V.int IntKind.u8 e1.s.rcv.c.2, V.int IntKind.u8 e1.s.rcv.c.3, V.int IntKind.u8 e1.s.rcv.c.4, V.int IntKind.u8 e1.s.rcv.c.5, V.int IntKind.u8 e1.s.rcv.c.6, V.int IntKind.u8 e1.s.rcv.c.7, V.int IntKind.u8 e1.s.rcv.c.8, V.int IntKind.i64 e1.s.rcv.2], V.int IntKind.i64 (e1.t0), V.tru], upd := [none, none, none, none, none, none, none], new := [] }) (Tree.ite (Prt.eqB p p2) (Tree.leaf { v := V.tup [V.agg [V.int IntKind.i64 e2.s.1, V.int IntKind.i64 e2.s.2, V.int IntKind.i64 e2.s.q.1, V.int IntKind.i64 e2.s.q.2, V.int IntKind.i64 e2.s.q.3, V.int IntKind.u8 e2.s.g.1, V.int IntKind.u8 e2.s.g.2, V.int IntKind.u8 e2.s.g.3, V.int IntKind.u8 e2.s.g.4, V.int IntKind.u8 e2.s.g.5, V.int IntKind.u8 e2.s.g.6, V.int IntKind.u8 e2.s.g.7, V.int IntKind.u8 e2.s.g.8, V.int IntKind.i64 e2.s.5, V.int IntKind.u8 e2.s.snd.c.1, V.int IntKind.u8 e2.s.snd.c.2, V.int IntKind.u8 e2.s.snd.c.3, V.int IntKind.u8 e2.s.snd.c.4, V.int IntKind.u8 e2.s.snd.c.5, V.int IntKind.u8 e2.s.snd.c.6, V.int IntKind.u8 e2.s.snd.c.7, V.int IntKind.u8 e2.s.snd.c.8, V.int IntKind.i64 e2.s.snd.2, V.int IntKind.u8 e2.s.rcv.c.1, V.int IntKind.u8 e2.s.rcv.c.2, V.int IntKind.u8 e2.s.rcv.c.3, V.int IntKind.u8 e2.s.rcv.c.4, V.int IntKind.u8 e2.s.rcv.c.5, V.int IntKind.u8 e2.s.rcv.c.6, V.int IntKind.u8 e2.s.rcv.c.7, V.int IntKind.u8 e2.s.rcv.c.8, V.int IntKind.i64 e2.s.rcv.2], V.int IntKind.i64 (e2.t0), V.tru], upd := [none, none, none, none, none, none, none], new := [] }) (Tree.ite (Prt.eqB p p3) (Tree.leaf { v := V.tup [V.agg [V.int IntKind.i64 e3.s.1, V.int IntKind.i64 e3.s.2, V.int IntKind.i64 e3.s.q.1, V.int IntKind.i64 e3.s.q.2, V.int IntKind.i64 e3.s.q.3, V.int IntKind.u8 e3.s.g.1, V.int IntKind.u8 e3.s.g.2, V.int IntKind.u8 e3.s.g.3, V.int IntKind.u8 e3.s.g.4, V.int IntKind.u8 e3.s.g.5, V.int IntKind.u8 e3.s.g.6, V.int IntKind.u8 e3.s.g.7, V.int IntKind.u8 e3.s.g.8, V.int IntKind.i64 e3.s.5, V.int IntKind.u8 e3.s.snd.c.1, V.int IntKind.u8 e3.s.snd.c.2, V.int IntKind.u8 e3.s.snd.c.3, V.int IntKind.u8 e3.s.snd.c.4, V.int IntKind.u8 e3.s.snd.c.5, V.int IntKind.u8 e3.s.snd.c.6, V.int IntKind.u8 e3.s.snd.c.7, V.int IntKind.u8 e3.s.snd.c.8, V.int IntKind.i64 e3.s.snd.2, V.int IntKind.u8 e3.s.rcv.c.1, V.int IntKind.u8 e3.s.rcv.c.2, V.int IntKind.u8 e3.s.rcv.c.3, V.int IntKind.u8 e3.s.rcv.c.4, V.int IntKind.u8 e3.s.rcv.c.5, V.int IntKind.u8 e3.s.rcv.c.6, V.int IntKind.u8 e3.s.rcv.c.7, V.int IntKind.u8 e3.s.rcv.c.8, V.int IntKind.i64 e3.s.rcv.2], V.int IntKind.i64 (e3.t0), V.tru], upd := [none, none, none, none, none, none, none], new := [] }) (Tree.ite (Prt.eqB p p4) (Tree.leaf { v := V.tup [V.agg [V.int IntKind.i64 e4.s.1, V.int IntKind.i64 e4.s.2, V.int IntKind.i64 e4.s.q.1, V.int IntKind.i64 e4.s.q.2, V.int IntKind.i64 e4.s.q.3, V.int IntKind.u8 e4.s.g.1, V.int IntKind.u8 e4.s.g.2, V.int IntKind.u8 e4.s.g.3, V.int IntKind.u8 e4.s.g.4, V.int IntKind.u8 e4.s.g.5, V.int IntKind.u8 e4.s.g.6, V.int IntKind.u8 e4.s.g.7, V.int IntKind.u8 e4.s.g.8, V.int IntKind.i64 e4.s.5, V.int IntKind.u8 e4.s.snd.c.1, V.int IntKind.u8 e4.s.snd.c.2, V.int IntKind.u8 e4.s.snd.c.3, V.int IntKind.u8 e4.s.snd.c.4, V.int IntKind.u8 e4.s.snd.c.5, V.int IntKind.u8 e4.s.snd.c.6, V.int IntKind.u8 e4.s.snd.c.7, V.int IntKind.u8 e4.s.snd.c.8, V.int IntKind.i64 e4.s.snd.2, V.int IntKind.u8 e4.s.rcv.c.1, V.int IntKind.u8 e4.s.rcv.c.2, V.int IntKind.u8 e4.s.rcv.c.3, V.int IntKind.u8 e4.s.rcv.c.4, V.int IntKind.u8 e4.s.rcv.c.5, V.int IntKind.u8 e4.s.rcv.c.6, V.int IntKind.u8 e4.s.rcv.c.7, V.int IntKind.u8 e4.s.rcv.c.8, V.int IntKind.i64 e4.s.rcv.2], V.int IntKind.i64 (e4.t0), V.tru], upd := [none, none, none, none, none, none, none], new := [] }) (Tree.leaf { v := V.tup [V.agg [V.int IntKind.i64 0, V.int IntKind.i64 0, V.int IntKind.i64 0, V.int IntKind.i64 0, V.int IntKind.i64 0, V.int IntKind.u8 0, V.int IntKind.u8 0, V.int IntKind.u8 0, V.int IntKind.u8 0, V.int IntKind.u8 0, V.int IntKind.u8 0, V.int IntKind.u8 0, V.int IntKind.u8 0, V.int IntKind.i64 0, V.int IntKind.u8 0, V.int IntKind.u8 0, V.int IntKind.u8 0, V.int IntKind.u8 0, V.int IntKind.u8 0, V.int IntKind.u8 0, V.int IntKind.u8 0, V.int IntKind.u8 0, V.int IntKind.i64 0, V.int IntKind.u8 0, V.int IntKind.u8 0, V.int IntKind.u8 0, V.int IntKind.u8 0, V.int IntKind.u8 0, V.int IntKind.u8 0, V.int IntKind.u8 0, V.int IntKind.u8 0, V.int IntKind.i64 0], V.int IntKind.i64 0, V.fls], upd := [none, none, none, none, none, none, none], new := [] })))))) from by kernel_rfl]
  show _ = Tree.denN (Tree.leaf _)
  simp only [lastE]
  cases p.eqB p0
  · cases p.eqB p1
    · cases p.eqB p2
      · cases p.eqB p3
        · cases p.eqB p4
          · kernel_rfl
          · kernel_rfl
        · kernel_rfl
      · kernel_rfl
    · kernel_rfl
  · kernel_rfl
theorem dr_5 (own : Ck) (win : Int) (p : Prt) (p0 : Prt) (e0 : Ent) (p1 : Prt) (e1 : Ent) (p2 : Prt) (e2 : Ent) (p3 : Prt) (e3 : Ent) (p4 : Prt) (e4 : Ent) : (fFn P (specsOf []) (loopsOf []) Try.f25 [.ptr 0 0 0 0, p.v] (tabB own win [(p0, e0), (p1, e1), (p2, e2), (p3, e3), (p4, e4)])).denN = (drR p [(p0, e0), (p1, e1), (p2, e2), (p3, e3), (p4, e4)]).denN := by
  rw [show (fFn P (specsOf []) (loopsOf []) Try.f25 [.ptr 0 0 0 0, p.v] (tabB own win [(p0, e0), (p1, e1), (p2, e2), (p3, e3), (p4, e4)])).denN = Tree.denN (Tree.ite (Prt.eqB p p0) (Tree.ite (Prt.eqB p p0) (Tree.leaf { v := V.tru, upd := [none, some (some (Body.kv [p1.v, p2.v, p3.v, p4.v] [V.ptr 3 0 0 0, V.ptr 4 0 0 0, V.ptr 5 0 0 0, V.ptr 6 0 0 0])), none, none, none, none, none], new := [] }) (Tree.ite (Prt.eqB p p1) (Tree.leaf { v := V.tru, upd := [none, some (some (Body.kv [p0.v, p2.v, p3.v, p4.v] [V.ptr 2 0 0 0, V.ptr 4 0 0 0, V.ptr 5 0 0 0, V.ptr 6 0 0 0])), none, none, none, none, none], new := [] }) (Tree.ite (Prt.eqB p p2) (Tree.leaf { v := V.tru, upd := [none, some (some (Body.kv [p0.v, p1.v, p3.v, p4.v] [V.ptr 2 0 0 0, V.ptr 3 0 0 0, V.ptr 5 0 0 0, V.ptr 6 0 0 0])), none, none, none, none, none], new := [] }) (Tree.ite (Prt.eqB p p3) (Tree.leaf { v := V.tru, upd := [none, some (some (Body.kv [p0.v, p1.v, p2.v, p4.v] [V.ptr 2 0 0 0, V.ptr 3 0 0 0, V.ptr 4 0 0 0, V.ptr 6 0 0 0])), none, none, none, none, none], new := [] }) (Tree.ite (Prt.eqB p p4) (Tree.leaf { v := V.tru, upd := [none, some (some (Body.kv [p0.v, p1.v, p2.v, p3.v] [V.ptr 2 0 0 0, V.ptr 3 0 0 0, V.ptr 4 0 0 0, V.ptr 5 0 0 0])), none, none, none, none, none], new := [] }) (Tree.leaf { v := V.tru, upd := [none, some (some (Body.kv [p0.v, p1.v, p2.v, p3.v, p4.v] [V.ptr 2 0 0 0, V.ptr 3 0 0 0, V.ptr 4 0 0 0, V.ptr 5 0 0 0, V.ptr 6 0 0 0])), none, none, none, none, none], new := [] })))))) (Tree.ite (Prt.eqB p p1) (Tree.ite (Prt.eqB p p0) (Tree.leaf { v := V.tru, upd := [none, some (some (Body.kv [p1.v, p2.v, p3.v, p4.v] [V.ptr 3 0 0 0, V.ptr 4 0 0 0, V.ptr 5 0 0 0, V.ptr 6 0 0 0])), none, none, none, none, none], new := [] }) (Tree.ite (Prt.eqB p p1) (Tree.leaf { v := V.tru, upd := [none, some (some (Body.kv [p0.v, p2.v, p3.v, p4.v] [V.ptr 2 0 0 0, V.ptr 4 0 0 0, V.ptr 5 0 0 0, V.ptr 6 0 0 0])), none, none, none, none, none], new := [] }) (Tree.ite (Prt.eqB p p2) (Tree.leaf { v := V.tru, upd := [none, some (some (Body.kv [p0.v, p1.v, p3.v, p4.v] [V.ptr 2 0 0 0, V.ptr 3 0 0 0, V.ptr 5 0 0 0, V.ptr 6 0 0 0])), none, none, none, none, none], new := [] }) (Tree.ite (Prt.eqB p p3) (Tree.leaf { v := V.tru, upd := [none, some (some (Body.kv [p0.v, p1.v, p2.v, p4.v] [V.ptr 2 0 0 0, V.ptr 3 0 0 0, V.ptr 4 0 0 0, V.ptr 6 0 0 0])), none, none, none, none, none], new := [] }) (Tree.ite (Prt.eqB p p4) (Tree.leaf { v := V.tru, upd := [none, some (some (Body.kv [p0.v, p1.v, p2.v, p3.v] [V.ptr 2 0 0 0, V.ptr 3 0 0 0, V.ptr 4 0 0 0, V.ptr 5 0 0 0])), none, none, none, none, none], new := [] }) (Tree.leaf { v := V.tru, upd := [none, some (some (Body.kv [p0.v, p1.v, p2.v, p3.v, p4.v] [V.ptr 2 0 0 0, V.ptr 3 0 0 0, V.ptr 4 0 0 0, V.ptr 5 0 0 0, V.ptr 6 0 0 0])), none, none, none, none, none], new := [] })))))) (Tree.ite (Prt.eqB p p2) (Tree.ite (Prt.eqB p p0) (Tree.leaf { v := V.tru, upd := [none, some (some (Body.kv [p1.v, p2.v, p3.v, p4.v] [V.ptr 3 0 0 0, V.ptr 4 0 0 0, V.ptr 5 0 0 0, V.ptr 6 0 0 0])), none, none, none, none, none], new := [] }) (Tree.ite (Prt.eqB p p1) (Tree.leaf { v := V.tru, upd := [none, some (some (Body.kv [p0.v, p2.v, p3.v, p4.v] [V.ptr 2 0 0 0, V.ptr 4 0 0 0, V.ptr 5 0 0 0, V.ptr 6 0 0 0])), none, none, none, none, none], new := [] }) (Tree.ite (Prt.eqB p p2) (Tree.leaf { v := V.tru, upd := [none, some (some (Body.kv [p0.v, p1.v, p3.v, p4.v] [V.ptr 2 0 0 0, V.ptr 3 0 0 0, V.ptr 5 0 0 0, V.ptr 6 0 0 0])), none, none, none, none, none], new := [] }) (Tree.ite (Prt.eqB p p3) (Tree.leaf { v := V.tru, upd := [none, some (some (Body.kv [p0.v, p1.v, p2.v, p4.v] [V.ptr 2 0 0 0, V.ptr 3 0 0 0, V.ptr 4 0 0 0, V.ptr 6 0 0 0])), none, none, none, none, none], new := [] }) (Tree.ite (Prt.eqB p p4) (Tree.leaf { v := V.tru, upd := [none, some (some (Body.kv [p0.v, p1.v, p2.v, p3.v] [V.ptr 2 0 0 0, V.ptr 3 0 0 0, V.ptr 4 0 0 0, V.ptr 5 0 0 0])), none, none, none, none, none], new := [] }) (Tree.leaf { v := V.tru, upd := [none, some (some (Body.kv [p0.v, p1.v, p2.v, p3.v, p4.v] [V.ptr 2 0 0 0, V.ptr 3 0 0 0, V.ptr 4 0 0 0, V.ptr 5 0 0 0, V.ptr 6 0 0 0])), none, none, none, none, none], new := [] })))))) (Tree.ite (Prt.eqB p p3) (Tree.ite (Prt.eqB p p0) (Tree.leaf { v := V.tru, upd := [none, some (some (Body.kv [p1.v, p2.v, p3.v, p4.v] [V.ptr 3 0 0 0, V.ptr 4 0 0 0, V.ptr 5 0 0 0, V.ptr 6 0 0 0])), none, none, none, none, none], new := [] }) (Tree.ite (Prt.eqB p p1) (Tree.leaf { v := V.tru, upd := [none, some (some (Body.kv [p0.v, p2.v, p3.v, p4.v] [V.ptr 2 0 0 0, V.ptr 4 0 0 0, V.ptr 5 0 0 0, V.ptr 6 0 0 0])), none, none, none, none, none], new := [] }) (Tree.ite (Prt.eqB p p2) (Tree.leaf { v := V.tru, upd := [none, some (some (Body.kv [p0.v, p1.v, p3.v, p4.v] [V.ptr 2 0 0 0, V.ptr 3 0 0 0, V.ptr 5 0 0 0, V.ptr 6 0 0 0])), none, none, none, none, none], new := [] }) (Tree.ite (Prt.eqB p p3) (Tree.leaf { v := V.tru, upd := [none, some (some (Body.kv [p0.v, p1.v, p2.v, p4.v] [V.ptr 2 0 0 0, V.ptr 3 0 0 0, V.ptr 4 0 0 0, V.ptr 6 0 0 0])), none, none, none, none, none], new := [] }) (Tree.ite (Prt.eqB p p4) (Tree.leaf { v := V.tru, upd := [none, some (some (Body.kv [p0.v, p1.v, p2.v, p3.v] [V.ptr 2 0 0 0, V.ptr 3 0 0 0, V.ptr 4 0 0 0, V.ptr 5 0 0 0])), none, none, none, none, none], new := [] }) (Tree.leaf { v := V.tru, upd := [none, some (some (Body.kv [p0.v, p1.v, p2.v, p3.v, p4.v] [V.ptr 2 0 0 0, V.ptr 3 0 0 0, V.ptr 4 0 0 0, V.ptr 5 0 0 0, V.ptr 6 0 0 0])), none, none, none, none, none], new := [] })))))) (Tree.ite (Prt.eqB p p4) (Tree.ite (Prt.eqB p p0) (Tree.leaf { v := V.tru, upd := [none, some (some (Body.kv [p1.v, p2.v, p3.v, p4.v] [V.ptr 3 0 0 0, V.ptr 4 0 0 0, V.ptr 5 0 0 0, V.ptr 6 0 0 0])), none, none, none, none, none], new := [] }) (Tree.ite (Prt.eqB p p1) (Tree.leaf { v := V.tru, upd := [none, some (some (Body.kv [p0.v, p2.v, p3.v, p4.v] [V.ptr 2 0 0 0, V.ptr 4 0 0 0, V.ptr 5 0 0 0, V.ptr 6 0 0 0])), none, none, none, none, none], new := [] }) (Tree.ite (Prt.eqB p p2) (Tree.leaf { v := V.tru, upd := [none, some (some (Body.kv [p0.v, p1.v, p3.v, p4.v] [V.ptr 2 0 0 0, V.ptr 3 0 0 0, V.ptr 5 0 0 0, V.ptr 6 0 0 0])), none, none, none, none, none], new := [] }) (Tree.ite (Prt.eqB p p3) (Tree.leaf { v := V.tru, upd := [none, some (some (Body.kv [p0.v, p1.v, p2.v, p4.v] [V.ptr 2 0 0 0, V.ptr 3 0 0 0, V.ptr 4 0 0 0, V.ptr 6 0 0 0])), none, none, none, none, none], new := [] }) (Tree.ite (Prt.eqB p p4) (Tree.leaf { v := V.tru, upd := [none, some (some (Body.kv [p0.v, p1.v, p2.v, p3.v] [V.ptr 2 0 0 0, V.ptr 3 0 0 0, V.ptr 4 0 0 0, V.ptr 5 0 0 0])), none, none, none, none, none], new := [] }) (Tree.leaf { v := V.tru, upd := [none, some (some (Body.kv [p0.v, p1.v, p2.v, p3.v, p4.v] [V.ptr 2 0 0 0, V.ptr 3 0 0 0, V.ptr 4 0 0 0, V.ptr 5 0 0 0, V.ptr 6 0 0 0])), none, none, none, none, none], new := [] })))))) (Tree.ite (Prt.eqB p p0) (Tree.leaf { v := V.fls, upd := [none, some (some (Body.kv [p1.v, p2.v, p3.v, p4.v] [V.ptr 3 0 0 0, V.ptr 4 0 0 0, V.ptr 5 0 0 0, V.ptr 6 0 0 0])), none, none, none, none, none], new := [] }) (Tree.ite (Prt.eqB p p1) (Tree.leaf { v := V.fls, upd := [none, some (some (Body.kv [p0.v, p2.v, p3.v, p4.v] [V.ptr 2 0 0 0, V.ptr 4 0 0 0, V.ptr 5 0 0 0, V.ptr 6 0 0 0])), none, none, none, none, none], new := [] }) (Tree.ite (Prt.eqB p p2) (Tree.leaf { v := V.fls, upd := [none, some (some (Body.kv [p0.v, p1.v, p3.v, p4.v] [V.ptr 2 0 0 0, V.ptr 3 0 0 0, V.ptr 5 0 0 0, V.ptr 6 0 0 0])), none, none, none, none, none], new := [] }) (Tree.ite (Prt.eqB p p3) (Tree.leaf { v := V.fls, upd := [none, some (some (Body.kv [p0.v, p1.v, p2.v, p4.v] [V.ptr 2 0 0 0, V.ptr 3 0 0 0, V.ptr 4 0 0 0, V.ptr 6 0 0 0])), none, none, none, none, none], new := [] }) (Tree.ite (Prt.eqB p p4) (Tree.leaf { v := V.fls, upd := [none, some (some (Body.kv [p0.v, p1.v, p2.v, p3.v] [V.ptr 2 0 0 0, V.ptr 3 0 0 0, V.ptr 4 0 0 0, V.ptr 5 0 0 0])), none, none, none, none, none], new := [] }) (Tree.leaf { v := V.fls, upd := [none, some (some (Body.kv [p0.v, p1.v, p2.v, p3.v, p4.v] [V.ptr 2 0 0 0, V.ptr 3 0 0 0, V.ptr 4 0 0 0, V.ptr 5 0 0 0, V.ptr 6 0 0 0])), none, none, none, none, none], new := [] }))))))))))) from by kernel_rfl]
  simp only [drR, chainE]
  cases p.eqB p0
  · cases p.eqB p1
    · cases p.eqB p2
      · cases p.eqB p3
        · cases p.eqB p4
          · kernel_rfl
          · kernel_rfl
        · kernel_rfl
      · kernel_rfl
    · kernel_rfl
  · kernel_rfl
theorem le_0 (own : Ck) (win : Int)  : Tree.denN (fFn P (specsOf []) (loopsOf []) Try.f13 [.ptr 0 0 0 0] (tabB own win [])) = Tree.denN (.leaf ⟨.int .i64 (Int.ofNat 0), noneU 0, []⟩) := show Tree.denN (fFn P (specsOf []) (loopsOf []) Try.f13 [.ptr 0 0 0 0] (tabB own win [])) = Tree.denN (.leaf ⟨.int .i64 (Int.ofNat 0), noneU 0, []⟩) from by kernel_rfl
theorem cl_0 (own : Ck) (win : Int)  : Tree.denN (fFn P (specsOf []) (loopsOf []) Try.f26 [.ptr 0 0 0 0] (tabB own win [])) = Tree.denN (.leaf ⟨.tup [], kvU 0 [] [], []⟩) := show Tree.denN (fFn P (specsOf []) (loopsOf []) Try.f26 [.ptr 0 0 0 0] (tabB own win [])) = Tree.denN (.leaf ⟨.tup [], kvU 0 [] [], []⟩) from by kernel_rfl
theorem le_1 (own : Ck) (win : Int) (p0 : Prt) (e0 : Ent) : Tree.denN (fFn P (specsOf []) (loopsOf []) Try.f13 [.ptr 0 0 0 0] (tabB own win [(p0, e0)])) = Tree.denN (.leaf ⟨.int .i64 (Int.ofNat 1), noneU 1, []⟩) := show Tree.denN (fFn P (specsOf []) (loopsOf []) Try.f13 [.ptr 0 0 0 0] (tabB own win [(p0, e0)])) = Tree.denN (.leaf ⟨.int .i64 (Int.ofNat 1), noneU 1, []⟩) from by kernel_rfl
theorem cl_1 (own : Ck) (win : Int) (p0 : Prt) (e0 : Ent) : Tree.denN (fFn P (specsOf []) (loopsOf []) Try.f26 [.ptr 0 0 0 0] (tabB own win [(p0, e0)])) = Tree.denN (.leaf ⟨.tup [], kvU 1 [] [], []⟩) := show Tree.denN (fFn P (specsOf []) (loopsOf []) Try.f26 [.ptr 0 0 0 0] (tabB own win [(p0, e0)])) = Tree.denN (.leaf ⟨.tup [], kvU 1 [] [], []⟩) from by kernel_rfl
theorem le_2 (own : Ck) (win : Int) (p0 : Prt) (e0 : Ent) (p1 : Prt) (e1 : Ent) : Tree.denN (fFn P (specsOf []) (loopsOf []) Try.f13 [.ptr 0 0 0 0] (tabB own win [(p0, e0), (p1, e1)])) = Tree.denN (.leaf ⟨.int .i64 (Int.ofNat 2), noneU 2, []⟩) := show Tree.denN (fFn P (specsOf []) (loopsOf []) Try.f13 [.ptr 0 0 0 0] (tabB own win [(p0, e0), (p1, e1)])) = Tree.denN (.leaf ⟨.int .i64 (Int.ofNat 2), noneU 2, []⟩) from by kernel_rfl
theorem cl_2 (own : Ck) (win : Int) (p0 : Prt) (e0 : Ent) (p1 : Prt) (e1 : Ent) : Tree.denN (fFn P (specsOf []) (loopsOf []) Try.f26 [.ptr 0 0 0 0] (tabB own win [(p0, e0), (p1, e1)])) = Tree.denN (.leaf ⟨.tup [], kvU 2 [] [], []⟩) := show Tree.denN (fFn P (specsOf []) (loopsOf []) Try.f26 [.ptr 0 0 0 0] (tabB own win [(p0, e0), (p1, e1)])) = Tree.denN (.leaf ⟨.tup [], kvU 2 [] [], []⟩) from by kernel_rfl
theorem le_3 (own : Ck) (win : Int) (p0 : Prt) (e0 : Ent) (p1 : Prt) (e1 : Ent) (p2 : Prt) (e2 : Ent) : Tree.denN (fFn P (specsOf []) (loopsOf []) Try.f13 [.ptr 0 0 0 0] (tabB own win [(p0, e0), (p1, e1), (p2, e2)])) = Tree.denN (.leaf ⟨.int .i64 (Int.ofNat 3), noneU 3, []⟩) := show Tree.denN (fFn P (specsOf []) (loopsOf []) Try.f13 [.ptr 0 0 0 0] (tabB own win [(p0, e0), (p1, e1), (p2, e2)])) = Tree.denN (.leaf ⟨.int .i64 (Int.ofNat 3), noneU 3, []⟩) from by kernel_rfl
theorem cl_3 (own : Ck) (win : Int) (p0 : Prt) (e0 : Ent) (p1 : Prt) (e1 : Ent) (p2 : Prt) (e2 : Ent) : Tree.denN (fFn P (specsOf []) (loopsOf []) Try.f26 [.ptr 0 0 0 0] (tabB own win [(p0, e0), (p1, e1), (p2, e2)])) = Tree.denN (.leaf ⟨.tup [], kvU 3 [] [], []⟩) := show Tree.denN (fFn P (specsOf []) (loopsOf []) Try.f26 [.ptr 0 0 0 0] (tabB own win [(p0, e0), (p1, e1), (p2, e2)])) = Tree.denN (.leaf ⟨.tup [], kvU 3 [] [], []⟩) from by kernel_rfl
theorem le_4 (own : Ck) (win : Int) (p0 : Prt) (e0 : Ent) (p1 : Prt) (e1 : Ent) (p2 : Prt) (e2 : Ent) (p3 : Prt) (e3 : Ent) : Tree.denN (fFn P (specsOf []) (loopsOf []) Try.f13 [.ptr 0 0 0 0] (tabB own win [(p0, e0), (p1, e1), (p2, e2), (p3, e3)])) = Tree.denN (.leaf ⟨.int .i64 (Int.ofNat 4), noneU 4, []⟩) := show Tree.denN (fFn P (specsOf []) (loopsOf []) Try.f13 [.ptr 0 0 0 0] (tabB own win [(p0, e0), (p1, e1), (p2, e2), (p3, e3)])) = Tree.denN (.leaf ⟨.int .i64 (Int.ofNat 4), noneU 4, []⟩) from by kernel_rfl
theorem cl_4 (own : Ck) (win : Int) (p0 : Prt) (e0 : Ent) (p1 : Prt) (e1 : Ent) (p2 : Prt) (e2 : Ent) (p3 : Prt) (e3 : Ent) : Tree.denN (fFn P (specsOf []) (loopsOf []) Try.f26 [.ptr 0 0 0 0] (tabB own win [(p0, e0), (p1, e1), (p2, e2), (p3, e3)])) = Tree.denN (.leaf ⟨.tup [], kvU 4 [] [], []⟩) := show Tree.denN (fFn P (specsOf []) (loopsOf []) Try.f26 [.ptr 0 0 0 0] (tabB own win [(p0, e0), (p1, e1), (p2, e2), (p3, e3)])) = Tree.denN (.leaf ⟨.tup [], kvU 4 [] [], []⟩) from by kernel_rfl
theorem le_5 (own : Ck) (win : Int) (p0 : Prt) (e0 : Ent) (p1 : Prt) (e1 : Ent) (p2 : Prt) (e2 : Ent) (p3 : Prt) (e3 : Ent) (p4 : Prt) (e4 : Ent) : Tree.denN (fFn P (specsOf []) (loopsOf []) Try.f13 [.ptr 0 0 0 0] (tabB own win [(p0, e0), (p1, e1), (p2, e2), (p3, e3), (p4, e4)])) = Tree.denN (.leaf ⟨.int .i64 (Int.ofNat 5), noneU 5, []⟩) := show Tree.denN (fFn P (specsOf []) (loopsOf []) Try.f13 [.ptr 0 0 0 0] (tabB own win [(p0, e0), (p1, e1), (p2, e2), (p3, e3), (p4, e4)])) = Tree.denN (.leaf ⟨.int .i64 (Int.ofNat 5), noneU 5, []⟩) from by kernel_rfl
theorem cl_5 (own : Ck) (win : Int) (p0 : Prt) (e0 : Ent) (p1 : Prt) (e1 : Ent) (p2 : Prt) (e2 : Ent) (p3 : Prt) (e3 : Ent) (p4 : Prt) (e4 : Ent) : Tree.denN (fFn P (specsOf []) (loopsOf []) Try.f26 [.ptr 0 0 0 0] (tabB own win [(p0, e0), (p1, e1), (p2, e2), (p3, e3), (p4, e4)])) = Tree.denN (.leaf ⟨.tup [], kvU 5 [] [], []⟩) := show Tree.denN (fFn P (specsOf []) (loopsOf []) Try.f26 [.ptr 0 0 0 0] (tabB own win [(p0, e0), (p1, e1), (p2, e2), (p3, e3), (p4, e4)])) = Tree.denN (.leaf ⟨.tup [], kvU 5 [] [], []⟩) from by kernel_rfl
theorem la_ok : SpecOK P 20 laS := by
  refine specOK_fast laG_ok hm (Λ := loopsOf []) Try.func20 (by kernel_rfl) (LoopsOK.nil (by kernel_rfl)) ?_
  intro args bs r h
  unfold laS at h
  split at h
  · rename_i q own win es hb
    split at h
    · rename_i p hq
      have hb := tabP_eq hb
      subst hb
      have hq := Prt.of_eq hq
      subst hq
      rw [den_lit] at h
      obtain ⟨hn, h⟩ := h
      have h := denN_of h
      rw [← h]
      rcases es with _ | ⟨⟨p0, e0⟩, _ | ⟨⟨p1, e1⟩, _ | ⟨⟨p2, e2⟩, _ | ⟨⟨p3, e3⟩, _ | ⟨⟨p4, e4⟩, _ | ⟨⟨p5, e5⟩, es⟩⟩⟩⟩⟩⟩
      · exact la_0 own win p 
      · exact la_1 own win p p0 e0
      · exact la_2 own win p p0 e0 p1 e1
      · exact la_3 own win p p0 e0 p1 e1 p2 e2
      · exact la_4 own win p p0 e0 p1 e1 p2 e2 p3 e3
      · exact la_5 own win p p0 e0 p1 e1 p2 e2 p3 e3 p4 e4
      · exact absurd hn (by simp)
    · simp [den_fail] at h
  · simp [den_fail] at h
theorem dr_ok : SpecOK P 25 drS := by
  refine specOK_fast (GammaOK.nil P) hm (Λ := loopsOf []) Try.func25 (by kernel_rfl) (LoopsOK.nil (by kernel_rfl)) ?_
  intro args bs r h
  unfold drS at h
  split at h
  · rename_i q own win es hb
    split at h
    · rename_i p hq
      have hb := tabP_eq hb
      subst hb
      have hq := Prt.of_eq hq
      subst hq
      rw [den_lit] at h
      obtain ⟨hn, h⟩ := h
      have h := denN_of h
      rw [← h]
      rcases es with _ | ⟨⟨p0, e0⟩, _ | ⟨⟨p1, e1⟩, _ | ⟨⟨p2, e2⟩, _ | ⟨⟨p3, e3⟩, _ | ⟨⟨p4, e4⟩, _ | ⟨⟨p5, e5⟩, es⟩⟩⟩⟩⟩⟩
      · exact dr_0 own win p 
      · exact dr_1 own win p p0 e0
      · exact dr_2 own win p p0 e0 p1 e1
      · exact dr_3 own win p p0 e0 p1 e1 p2 e2
      · exact dr_4 own win p p0 e0 p1 e1 p2 e2 p3 e3
      · exact dr_5 own win p p0 e0 p1 e1 p2 e2 p3 e3 p4 e4
      · exact absurd hn (by simp)
    · simp [den_fail] at h
  · simp [den_fail] at h
theorem le_ok : SpecOK P 13 leS := by
  refine specOK_fast (GammaOK.nil P) hm (Λ := loopsOf []) Try.func13 (by kernel_rfl) (LoopsOK.nil (by kernel_rfl)) ?_
  intro args bs r h
  unfold leS at h
  split at h
  · rename_i own win es hb
    have hb := tabP_eq hb
    subst hb
    rw [den_lit] at h
    obtain ⟨hn, h⟩ := h
    have h := denN_of h
    rw [← h]
    rcases es with _ | ⟨⟨p0, e0⟩, _ | ⟨⟨p1, e1⟩, _ | ⟨⟨p2, e2⟩, _ | ⟨⟨p3, e3⟩, _ | ⟨⟨p4, e4⟩, _ | ⟨⟨p5, e5⟩, es⟩⟩⟩⟩⟩⟩
    · exact le_0 own win 
    · exact le_1 own win p0 e0
    · exact le_2 own win p0 e0 p1 e1
    · exact le_3 own win p0 e0 p1 e1 p2 e2
    · exact le_4 own win p0 e0 p1 e1 p2 e2 p3 e3
    · exact le_5 own win p0 e0 p1 e1 p2 e2 p3 e3 p4 e4
    · exact absurd hn (by simp)
  · simp [den_fail] at h
theorem cl_ok : SpecOK P 26 clS := by
  refine specOK_fast (GammaOK.nil P) hm (Λ := loopsOf []) Try.func26 (by kernel_rfl) (LoopsOK.nil (by kernel_rfl)) ?_
  intro args bs r h
  unfold clS at h
  split at h
  · rename_i own win es hb
    have hb := tabP_eq hb
    subst hb
    rw [den_lit] at h
    obtain ⟨hn, h⟩ := h
    have h := denN_of h
    rw [← h]
    rcases es with _ | ⟨⟨p0, e0⟩, _ | ⟨⟨p1, e1⟩, _ | ⟨⟨p2, e2⟩, _ | ⟨⟨p3, e3⟩, _ | ⟨⟨p4, e4⟩, _ | ⟨⟨p5, e5⟩, es⟩⟩⟩⟩⟩⟩
    · exact cl_0 own win 
    · exact cl_1 own win p0 e0
    · exact cl_2 own win p0 e0 p1 e1
    · exact cl_3 own win p0 e0 p1 e1 p2 e2
    · exact cl_4 own win p0 e0 p1 e1 p2 e2 p3 e3
    · exact cl_5 own win p0 e0 p1 e1 p2 e2 p3 e3 p4 e4
    · exact absurd hn (by simp)
  · simp [den_fail] at h
end Go.Proofs.Ytgdalboilghciaa

set_option maxRecDepth 100000
set_option linter.unusedSimpArgs false
set_option linter.unusedVariables false
namespace Go.Proofs.Ytgdalboilghciaa
open Go.Rx
/-- Who is over. -/
def overL (srt : List Prt → List Prt) (es : TabE) (win now : Int) : List Prt := (srt (es.map (·.1))).filter fun p => decide ((lastE p es).2.1 ≤ IntKind.i64.wrap (now - win))
def minE (es : TabE) : Prt → List Prt → Prt
  | m, [] => m
  | m, x :: r => match decide (IntKind.i64.wrap ((lastE x es).2.1 - (lastE m es).2.1) < 0) with
    | true => minE es x r
    | false => minE es m r
def ovB (srt : List Prt → List Prt) (es : TabE) (win now : Int) : Bool := !(overL srt es win now).isEmpty
def ovP (srt : List Prt → List Prt) (es : TabE) (win now : Int) : Prt := match overL srt es win now with
  | [] => Prt.zero
  | x :: r => minE es x r
def ovS (srt : List Prt → List Prt) : Rx.Spec := fun a b => match a, tabP b with
  | [.ptr 0 0 0 0, .int .i64 now], some (own, win, es) => .lit (Nat.beq es.length 5) (.leaf ⟨.tup [.agg (ovP srt es win now).vs, .bool (ovB srt es win now)], noneU es.length, []⟩)
  | _, _ => .fail
def heardE (s : Ste) (now : Int) (e : Ent) : Ent := ⟨s, now, e.t0, min (IntKind.i64.wrap (e.m + 1)) 2⟩
def newE (s : Ste) (now : Int) : Ent := ⟨s, now, 0, 1⟩
def badB (own : Ck) (s : Ste) (now : Int) : Bool := decide (now < 0) || (decide (now > 4611686018427387904) || (s.snd.c.eqB own || (decide (s.st < 0) || decide (s.st ≥ 255))))
def entU (n i : Nat) (e : Ent) : List (Option (Option Blk)) := none :: none :: (List.replicate n none).set i (some (some (.cells e.vs)))
def heR (srt : List Prt → List Prt) (own : Ck) (win : Int) (es : TabE) (s : Ste) (now : Int) : Tree Res :=
  .ite (badB own s now) (.leaf ⟨.int .i64 0, noneU es.length, []⟩)
    (chainE s.snd es 0 (fun i => .ite (decide ((es.getD i default).2.t0 > now)) (.leaf ⟨.int .i64 0, noneU es.length, []⟩)
      (.leaf ⟨.int .i64 1, entU es.length i (heardE s now (es.getD i default).2), []⟩))
    (match Nat.ble 5 es.length with
    | false => .leaf ⟨.int .i64 2, kvU es.length (keysB es ++ [s.snd.v]) (ptrsF 2 es.length ++ [.ptr (es.length + 2) 0 0 0]), [.cells (newE s now).vs]⟩
    | true => .ite (ovB srt es win now) (chainE (ovP srt es win now) es 0 (fun i => .leaf ⟨.int .i64 3, kvU es.length ((keysB es).eraseIdx i ++ [s.snd.v]) ((ptrsF 2 es.length).eraseIdx i ++ [.ptr (es.length + 2) 0 0 0]), [.cells (newE s now).vs]⟩) .fail)
      (.leaf ⟨.int .i64 4, noneU es.length, []⟩)))
def heS (srt : List Prt → List Prt) : Rx.Spec := fun a b => match a, tabP b with
  | [.ptr 0 0 0 0, q, .int .i64 now], some (own, win, es) => match Ste.of q with
    | some s => .lit (Nat.ble es.length 5) (heR srt own win es s now)
    | none => .fail
  | _, _ => .fail
noncomputable abbrev heG (srt : List Prt → List Prt) : List (Nat × Rx.Spec) := [(21, fFn P (specsOf []) (loopsOf []) Try.f21), (22, fFn P (specsOf []) (loopsOf []) Try.f22), (23, ovS srt)]
theorem heG_ok {srt : List Prt → List Prt} (hov : SpecOK P 23 (ovS srt)) : GammaOK P (heG srt) := .cons (inl_ok (GammaOK.nil P) hm Try.func21 (by kernel_rfl) (LoopsOK.nil (by kernel_rfl))) (.cons (inl_ok (GammaOK.nil P) hm Try.func22 (by kernel_rfl) (LoopsOK.nil (by kernel_rfl))) (.cons hov (.nil P)))
theorem le_of {a b : Option Res} (h : a = b) : ∀ r, b = some r → a = some r := fun r e => h.trans e
theorem le_none {a b : Option Res} (h : b = none) : ∀ r, b = some r → a = some r := fun r e => by rw [h] at e; cases e
theorem he_0 (srt : List Prt → List Prt) (own : Ck) (win now : Int) (s : Ste)  : ∀ r, (heR srt own win [] s now).denN = some r → (fFn P (specsOf (heG srt)) (loopsOf []) Try.f11 [.ptr 0 0 0 0, s.v, .int .i64 now] (tabB own win [])).denN = some r := by
  rw [show (fFn P (specsOf (heG srt)) (loopsOf []) Try.f11 [.ptr 0 0 0 0, s.v, .int .i64 now] (tabB own win [])).denN = Tree.denN (Tree.ite (decide (now < 0)) (Tree.leaf { v := V.int IntKind.i64 0, upd := [none, none], new := [] }) (Tree.ite (decide (now > 4611686018427387904)) (Tree.leaf { v := V.int IntKind.i64 0, upd := [none, none], new := [] }) (Tree.ite (Ck.eqB s.snd.c own) (Tree.leaf { v := V.int IntKind.i64 0, upd := [none, none], new := [] }) (Tree.ite (decide (s.5 < 0)) (Tree.leaf { v := V.int IntKind.i64 0, upd := [none, none], new := [] }) (Tree.ite (decide (s.5 ≥ 255)) (Tree.leaf { v := V.int IntKind.i64 0, upd := [none, none], new := [] }) (Tree.leaf { v := V.int IntKind.i64 2, upd := [none, some (some (Body.kv [s.snd.v] [V.ptr 2 0 0 0]))], new := [Body.cells [V.int IntKind.i64 s.1, V.int IntKind.i64 s.2, V.int IntKind.i64 s.q.1, V.int IntKind.i64 s.q.2, V.int IntKind.i64 s.q.3, V.int IntKind.u8 s.g.1, V.int IntKind.u8 s.g.2, V.int IntKind.u8 s.g.3, V.int IntKind.u8 s.g.4, V.int IntKind.u8 s.g.5, V.int IntKind.u8 s.g.6, V.int IntKind.u8 s.g.7, V.int IntKind.u8 s.g.8, V.int IntKind.i64 s.5, V.int IntKind.u8 s.snd.c.1, V.int IntKind.u8 s.snd.c.2, V.int IntKind.u8 s.snd.c.3, V.int IntKind.u8 s.snd.c.4, V.int IntKind.u8 s.snd.c.5, V.int IntKind.u8 s.snd.c.6, V.int IntKind.u8 s.snd.c.7, V.int IntKind.u8 s.snd.c.8, V.int IntKind.i64 s.snd.2, V.int IntKind.u8 s.rcv.c.1, V.int IntKind.u8 s.rcv.c.2, V.int IntKind.u8 s.rcv.c.3, V.int IntKind.u8 s.rcv.c.4, V.int IntKind.u8 s.rcv.c.5, V.int IntKind.u8 s.rcv.c.6, V.int IntKind.u8 s.rcv.c.7, V.int IntKind.u8 s.rcv.c.8, V.int IntKind.i64 s.rcv.2, V.int IntKind.i64 now, V.int IntKind.i64 0, V.int IntKind.i64 1]] })))))) from by kernel_rfl]
  simp only [heR, chainE, badB, List.getD_cons_zero, List.getD_cons_succ]
  cases decide (now < 0)
  · cases decide (now > 4611686018427387904)
    · cases s.snd.c.eqB own
      · cases decide (s.st < 0)
        · cases decide (s.st ≥ 255)
          · exact le_of (by kernel_rfl)
          · exact le_of (by kernel_rfl)
        · exact le_of (by kernel_rfl)
      · exact le_of (by kernel_rfl)
    · exact le_of (by kernel_rfl)
  · exact le_of (by kernel_rfl)
theorem he_1 (srt : List Prt → List Prt) (own : Ck) (win now : Int) (s : Ste) (p0 : Prt) (e0 : Ent) : ∀ r, (heR srt own win [(p0, e0)] s now).denN = some r → (fFn P (specsOf (heG srt)) (loopsOf []) Try.f11 [.ptr 0 0 0 0, s.v, .int .i64 now] (tabB own win [(p0, e0)])).denN = some r := by
  rw [show (fFn P (specsOf (heG srt)) (loopsOf []) Try.f11 [.ptr 0 0 0 0, s.v, .int .i64 now] (tabB own win [(p0, e0)])).denN = Tree.denN (Tree.ite (Prt.eqB s.snd p0) (Tree.ite (decide (now < 0)) (Tree.leaf { v := V.int IntKind.i64 0, upd := [none, none, none], new := [] }) (Tree.ite (decide (now > 4611686018427387904)) (Tree.leaf { v := V.int IntKind.i64 0, upd := [none, none, none], new := [] }) (Tree.ite (Ck.eqB s.snd.c own) (Tree.leaf { v := V.int IntKind.i64 0, upd := [none, none, none], new := [] }) (Tree.ite (decide (s.5 < 0)) (Tree.leaf { v := V.int IntKind.i64 0, upd := [none, none, none], new := [] }) (Tree.ite (decide (s.5 ≥ 255)) (Tree.leaf { v := V.int IntKind.i64 0, upd := [none, none, none], new := [] }) (Tree.ite (decide (e0.t0 > now)) (Tree.leaf { v := V.int IntKind.i64 0, upd := [none, none, none], new := [] }) (Tree.leaf { v := V.int IntKind.i64 1, upd := [none, none, some (some (Body.cells [V.int IntKind.i64 s.1, V.int IntKind.i64 s.2, V.int IntKind.i64 s.q.1, V.int IntKind.i64 s.q.2, V.int IntKind.i64 s.q.3, V.int IntKind.u8 s.g.1, V.int IntKind.u8 s.g.2, V.int IntKind.u8 s.g.3, V.int IntKind.u8 s.g.4, V.int IntKind.u8 s.g.5, V.int IntKind.u8 s.g.6, V.int IntKind.u8 s.g.7, V.int IntKind.u8 s.g.8, V.int IntKind.i64 s.5, V.int IntKind.u8 s.snd.c.1, V.int IntKind.u8 s.snd.c.2, V.int IntKind.u8 s.snd.c.3, V.int IntKind.u8 s.snd.c.4, V.int IntKind.u8 s.snd.c.5, V.int IntKind.u8 s.snd.c.6, V.int IntKind.u8 s.snd.c.7, V.int IntKind.u8 s.snd.c.8, V.int IntKind.i64 s.snd.2, V.int IntKind.u8 s.rcv.c.1, V.int IntKind.u8 s.rcv.c.2, V.int IntKind.u8 s.rcv.c.3, V.int IntKind.u8 s.rcv.c.4, V.int IntKind.u8 s.rcv.c.5, V.int IntKind.u8 s.rcv.c.6, V.int IntKind.u8 s.rcv.c.7, V.int IntKind.u8 s.rcv.c.8, V.int IntKind.i64 s.rcv.2, V.int IntKind.i64 now, V.int IntKind.i64 e0.t0, V.int IntKind.i64 (min (IntKind.i64.wrap (e0.m + 1)) 2)]))], new := [] }))))))) (Tree.ite (decide (now < 0)) (Tree.leaf { v := V.int IntKind.i64 0, upd := [none, none, none], new := [] }) (Tree.ite (decide (now > 4611686018427387904)) (Tree.leaf { v := V.int IntKind.i64 0, upd := [none, none, none], new := [] }) (Tree.ite (Ck.eqB s.snd.c own) (Tree.leaf { v := V.int IntKind.i64 0, upd := [none, none, none], new := [] }) (Tree.ite (decide (s.5 < 0)) (Tree.leaf { v := V.int IntKind.i64 0, upd := [none, none, none], new := [] }) (Tree.ite (decide (s.5 ≥ 255)) (Tree.leaf { v := V.int IntKind.i64 0, upd := [none, none, none], new := [] }) (Tree.ite (Prt.eqB s.snd p0) Tree.fail (Tree.leaf { v := V.int IntKind.i64 2, upd := [none, some (some (Body.kv [p0.v, s.snd.v] [V.ptr 2 0 0 0, V.ptr 3 0 0 0])), none], new := [Body.cells [V.int IntKind.i64 s.1, V.int IntKind.i64 s.2, V.int IntKind.i64 s.q.1, V.int IntKind.i64 s.q.2, V.int IntKind.i64 s.q.3, V.int IntKind.u8 s.g.1, V.int IntKind.u8 s.g.2, V.int IntKind.u8 s.g.3, V.int IntKind.u8 s.g.4, V.int IntKind.u8 s.g.5, V.int IntKind.u8 s.g.6, V.int IntKind.u8 s.g.7, V.int IntKind.u8 s.g.8, V.int IntKind.i64 s.5, V.int IntKind.u8 s.snd.c.1, V.int IntKind.u8 s.snd.c.2, V.int IntKind.u8 s.snd.c.3, V.int IntKind.u8 s.snd.c.4, V.int IntKind.u8 s.snd.c.5, V.int IntKind.u8 s.snd.c.6, V.int IntKind.u8 s.snd.c.7, V.int IntKind.u8 s.snd.c.8, V.int IntKind.i64 s.snd.2, V.int IntKind.u8 s.rcv.c.1, V.int IntKind.u8 s.rcv.c.2, V.int IntKind.u8 s.rcv.c.3, V.int IntKind.u8 s.rcv.c.4, V.int IntKind.u8 s.rcv.c.5, V.int IntKind.u8 s.rcv.c.6, V.int IntKind.u8 s.rcv.c.7, V.int IntKind.u8 s.rcv.c.8, V.int IntKind.i64 s.rcv.2, V.int IntKind.i64 now, V.int IntKind.i64 0, V.int IntKind.i64 1]] })))))))) from by kernel_rfl]
  simp only [heR, chainE, badB, List.getD_cons_zero, List.getD_cons_succ]
  cases s.snd.eqB p0
  · cases decide (now < 0)
    · cases decide (now > 4611686018427387904)
      · cases s.snd.c.eqB own
        · cases decide (s.st < 0)
          · cases decide (s.st ≥ 255)
            · exact le_of (by kernel_rfl)
            · exact le_of (by kernel_rfl)
          · exact le_of (by kernel_rfl)
        · exact le_of (by kernel_rfl)
      · exact le_of (by kernel_rfl)
    · exact le_of (by kernel_rfl)
  · cases decide (now < 0)
    · cases decide (now > 4611686018427387904)
      · cases s.snd.c.eqB own
        · cases decide (s.st < 0)
          · cases decide (s.st ≥ 255)
            · cases decide (e0.t0 > now)
              · exact le_of (by kernel_rfl)
              · exact le_of (by kernel_rfl)
            · exact le_of (by kernel_rfl)
          · exact le_of (by kernel_rfl)
        · exact le_of (by kernel_rfl)
      · exact le_of (by kernel_rfl)
    · exact le_of (by kernel_rfl)
theorem he_2 (srt : List Prt → List Prt) (own : Ck) (win now : Int) (s : Ste) (p0 : Prt) (e0 : Ent) (p1 : Prt) (e1 : Ent) : ∀ r, (heR srt own win [(p0, e0), (p1, e1)] s now).denN = some r → (fFn P (specsOf (heG srt)) (loopsOf []) Try.f11 [.ptr 0 0 0 0, s.v, .int .i64 now] (tabB own win [(p0, e0), (p1, e1)])).denN = some r := by
  rw [show (fFn P (specsOf (heG srt)) (loopsOf []) Try.f11 [.ptr 0 0 0 0, s.v, .int .i64 now] (tabB own win [(p0, e0), (p1, e1)])).denN = Tree.denN (Tree.ite (Prt.eqB s.snd p0) (Tree.ite (decide (now < 0)) (Tree.leaf { v := V.int IntKind.i64 0, upd := [none, none, none, none], new := [] }) (Tree.ite (decide (now > 4611686018427387904)) (Tree.leaf { v := V.int IntKind.i64 0, upd := [none, none, none, none], new := [] }) (Tree.ite (Ck.eqB s.snd.c own) (Tree.leaf { v := V.int IntKind.i64 0, upd := [none, none, none, none], new := [] }) (Tree.ite (decide (s.5 < 0)) (Tree.leaf { v := V.int IntKind.i64 0, upd := [none, none, none, none], new := [] }) (Tree.ite (decide (s.5 ≥ 255)) (Tree.leaf { v := V.int IntKind.i64 0, upd := [none, none, none, none], new := [] }) (Tree.ite (decide (e0.t0 > now)) (Tree.leaf { v := V.int IntKind.i64 0, upd := [none, none, none, none], new := [] }) (Tree.leaf { v := V.int IntKind.i64 1, upd := [none, none, some (some (Body.cells [V.int IntKind.i64 s.1, V.int IntKind.i64 s.2, V.int IntKind.i64 s.q.1, V.int IntKind.i64 s.q.2, V.int IntKind.i64 s.q.3, V.int IntKind.u8 s.g.1, V.int IntKind.u8 s.g.2, V.int IntKind.u8 s.g.3, V.int IntKind.u8 s.g.4, V.int IntKind.u8 s.g.5, V.int IntKind.u8 s.g.6, V.int IntKind.u8 s.g.7, V.int IntKind.u8 s.g.8, V.int IntKind.i64 s.5, V.int IntKind.u8 s.snd.c.1, V.int IntKind.u8 s.snd.c.2, V.int IntKind.u8 s.snd.c.3, V.int IntKind.u8 s.snd.c.4, V.int IntKind.u8 s.snd.c.5, V.int IntKind.u8 s.snd.c.6, V.int IntKind.u8 s.snd.c.7, V.int IntKind.u8 s.snd.c.8, V.int IntKind.i64 s.snd.2, V.int IntKind.u8 s.rcv.c.1, V.int IntKind.u8 s.rcv.c.2, V.int IntKind.u8 s.rcv.c.3, V.int IntKind.u8 s.rcv.c.4, V.int IntKind.u8 s.rcv.c.5, V.int IntKind.u8 s.rcv.c.6, V.int IntKind.u8 s.rcv.c.7, V.int IntKind.u8 s.rcv.c.8, V.int IntKind.i64 s.rcv.2, V.int IntKind.i64 now, V.int IntKind.i64 e0.t0, V.int IntKind.i64 (min (IntKind.i64.wrap (e0.m + 1)) 2)])), none], new := [] }))))))) (Tree.ite (Prt.eqB s.snd p1) (Tree.ite (decide (now < 0)) (Tree.leaf { v := V.int IntKind.i64 0, upd := [none, none, none, none], new := [] }) (Tree.ite (decide (now > 4611686018427387904)) (Tree.leaf { v := V.int IntKind.i64 0, upd := [none, none, none, none], new := [] }) (Tree.ite (Ck.eqB s.snd.c own) (Tree.leaf { v := V.int IntKind.i64 0, upd := [none, none, none, none], new := [] }) (Tree.ite (decide (s.5 < 0)) (Tree.leaf { v := V.int IntKind.i64 0, upd := [none, none, none, none], new := [] }) (Tree.ite (decide (s.5 ≥ 255)) (Tree.leaf { v := V.int IntKind.i64 0, upd := [none, none, none, none], new := [] }) (Tree.ite (decide (e1.t0 > now)) (Tree.leaf { v := V.int IntKind.i64 0, upd := [none, none, none, none], new := [] }) (Tree.leaf { v := V.int IntKind.i64 1, upd := [none, none, none, some (some (Body.cells [V.int IntKind.i64 s.1, V.int IntKind.i64 s.2, V.int IntKind.i64 s.q.1, V.int IntKind.i64 s.q.2, V.int IntKind.i64 s.q.3, V.int IntKind.u8 s.g.1, V.int IntKind.u8 s.g.2, V.int IntKind.u8 s.g.3, V.int IntKind.u8 s.g.4, V.int IntKind.u8 s.g.5, V.int IntKind.u8 s.g.6, V.int IntKind.u8 s.g.7, V.int IntKind.u8 s.g.8, V.int IntKind.i64 s.5, V.int IntKind.u8 s.snd.c.1, V.int IntKind.u8 s.snd.c.2, V.int IntKind.u8 s.snd.c.3, V.int IntKind.u8 s.snd.c.4, V.int IntKind.u8 s.snd.c.5, V.int IntKind.u8 s.snd.c.6, V.int IntKind.u8 s.snd.c.7, V.int IntKind.u8 s.snd.c.8, V.int IntKind.i64 s.snd.2, V.int IntKind.u8 s.rcv.c.1, V.int IntKind.u8 s.rcv.c.2, V.int IntKind.u8 s.rcv.c.3, V.int IntKind.u8 s.rcv.c.4, V.int IntKind.u8 s.rcv.c.5, V.int IntKind.u8 s.rcv.c.6, V.int IntKind.u8 s.rcv.c.7, V.int IntKind.u8 s.rcv.c.8, V.int IntKind.i64 s.rcv.2, V.int IntKind.i64 now, V.int IntKind.i64 e1.t0, V.int IntKind.i64 (min (IntKind.i64.wrap (e1.m + 1)) 2)]))], new := [] }))))))) (Tree.ite (decide (now < 0)) (Tree.leaf { v := V.int IntKind.i64 0, upd := [none, none, none, none], new := [] }) (Tree.ite (decide (now > 4611686018427387904)) (Tree.leaf { v := V.int IntKind.i64 0, upd := [none, none, none, none], new := [] }) (Tree.ite (Ck.eqB s.snd.c own) (Tree.leaf { v := V.int IntKind.i64 0, upd := [none, none, none, none], new := [] }) (Tree.ite (decide (s.5 < 0)) (Tree.leaf { v := V.int IntKind.i64 0, upd := [none, none, none, none], new := [] }) (Tree.ite (decide (s.5 ≥ 255)) (Tree.leaf { v := V.int IntKind.i64 0, upd := [none, none, none, none], new := [] }) (Tree.ite (Prt.eqB s.snd p0) Tree.fail (Tree.ite (Prt.eqB s.snd p1) Tree.fail (Tree.leaf { v := V.int IntKind.i64 2, upd := [none, some (some (Body.kv [p0.v, p1.v, s.snd.v] [V.ptr 2 0 0 0, V.ptr 3 0 0 0, V.ptr 4 0 0 0])), none, none], new := [Body.cells [V.int IntKind.i64 s.1, V.int IntKind.i64 s.2, V.int IntKind.i64 s.q.1, V.int IntKind.i64 s.q.2, V.int IntKind.i64 s.q.3, V.int IntKind.u8 s.g.1, V.int IntKind.u8 s.g.2, V.int IntKind.u8 s.g.3, V.int IntKind.u8 s.g.4, V.int IntKind.u8 s.g.5, V.int IntKind.u8 s.g.6, V.int IntKind.u8 s.g.7, V.int IntKind.u8 s.g.8, V.int IntKind.i64 s.5, V.int IntKind.u8 s.snd.c.1, V.int IntKind.u8 s.snd.c.2, V.int IntKind.u8 s.snd.c.3, V.int IntKind.u8 s.snd.c.4, V.int IntKind.u8 s.snd.c.5, V.int IntKind.u8 s.snd.c.6, V.int IntKind.u8 s.snd.c.7, V.int IntKind.u8 s.snd.c.8, V.int IntKind.i64 s.snd.2, V.int IntKind.u8 s.rcv.c.1, V.int IntKind.u8 s.rcv.c.2, V.int IntKind.u8 s.rcv.c.3, V.int IntKind.u8 s.rcv.c.4, V.int IntKind.u8 s.rcv.c.5, V.int IntKind.u8 s.rcv.c.6, V.int IntKind.u8 s.rcv.c.7, V.int IntKind.u8 s.rcv.c.8, V.int IntKind.i64 s.rcv.2, V.int IntKind.i64 now, V.int IntKind.i64 0, V.int IntKind.i64 1]] })))))))))) from by kernel_rfl]
  simp only [heR, chainE, badB, List.getD_cons_zero, List.getD_cons_succ]
  cases s.snd.eqB p0
  · cases s.snd.eqB p1
    · cases decide (now < 0)
      · cases decide (now > 4611686018427387904)
        · cases s.snd.c.eqB own
          · cases decide (s.st < 0)
            · cases decide (s.st ≥ 255)
              · exact le_of (by kernel_rfl)
              · exact le_of (by kernel_rfl)
            · exact le_of (by kernel_rfl)
          · exact le_of (by kernel_rfl)
        · exact le_of (by kernel_rfl)
      · exact le_of (by kernel_rfl)
    · cases decide (now < 0)
      · cases decide (now > 4611686018427387904)
        · cases s.snd.c.eqB own
          · cases decide (s.st < 0)
            · cases decide (s.st ≥ 255)
              · cases decide (e1.t0 > now)
                · exact le_of (by kernel_rfl)
                · exact le_of (by kernel_rfl)
              · exact le_of (by kernel_rfl)
            · exact le_of (by kernel_rfl)
          · exact le_of (by kernel_rfl)
        · exact le_of (by kernel_rfl)
      · exact le_of (by kernel_rfl)
  · cases decide (now < 0)
    · cases decide (now > 4611686018427387904)
      · cases s.snd.c.eqB own
        · cases decide (s.st < 0)
          · cases decide (s.st ≥ 255)
            · cases decide (e0.t0 > now)
              · exact le_of (by kernel_rfl)
              · exact le_of (by kernel_rfl)
            · exact le_of (by kernel_rfl)
          · exact le_of (by kernel_rfl)
        · exact le_of (by kernel_rfl)
      · exact le_of (by kernel_rfl)
    · exact le_of (by kernel_rfl)
theorem he_3 (srt : List Prt → List Prt) (own : Ck) (win now : Int) (s : Ste) (p0 : Prt) (e0 : Ent) (p1 : Prt) (e1 : Ent) (p2 : Prt) (e2 : Ent) : ∀ r, (heR srt own win [(p0, e0), (p1, e1), (p2, e2)] s now).denN = some r → (fFn P (specsOf (heG srt)) (loopsOf []) Try.f11 [.ptr 0 0 0 0, s.v, .int .i64 now] (tabB own win [(p0, e0), (p1, e1), (p2, e2)])).denN = some r := by
  rw [show (fFn P (specsOf (heG srt)) (loopsOf []) Try.f11 [.ptr 0 0 0 0, s.v, .int .i64 now] (tabB own win [(p0, e0), (p1, e1), (p2, e2)])).denN = Tree.denN (Tree.ite (Prt.eqB s.snd p0) (Tree.ite (decide (now < 0)) (Tree.leaf { v := V.int IntKind.i64 0, upd := [none, none, none, none, none], new := [] }) (Tree.ite (decide (now > 4611686018427387904)) (Tree.leaf { v := V.int IntKind.i64 0, upd := [none, none, none, none, none], new := [] }) (Tree.ite (Ck.eqB s.snd.c own) (Tree.leaf { v := V.int IntKind.i64 0, upd := [none, none, none, none, none], new := [] }) (Tree.ite (decide (s.5 < 0)) (Tree.leaf { v := V.int IntKind.i64 0, upd := [none, none, none, none, none], new := [] }) (Tree.ite (decide (s.5 ≥ 255)) (Tree.leaf { v := V.int IntKind.i64 0, upd := [none, none, none, none, none], new := [] }) (Tree.ite (decide (e0.t0 > now)) (Tree.leaf { v := V.int IntKind.i64 0, upd := [none, none, none, none, none], new := [] }) (Tree.leaf { v := V.int IntKind.i64 1, upd := [none, none, some (some (Body.cells [V.int IntKind.i64 s.1, V.int IntKind.i64 s.2, V.int IntKind.i64 s.q.1, V.int IntKind.i64 s.q.2, V.int IntKind.i64 s.q.3, V.int IntKind.u8 s.g.1, V.int IntKind.u8 s.g.2, V.int IntKind.u8 s.g.3, V.int IntKind.u8 s.g.4, V.int IntKind.u8 s.g.5, V.int IntKind.u8 s.g.6, V.int IntKind.u8 s.g.7, V.int IntKind.u8 s.g.8, V.int IntKind.i64 s.5, V.int IntKind.u8 s.snd.c.1, V.int IntKind.u8 s.snd.c.2, V.int IntKind.u8 s.snd.c.3, V.int IntKind.u8 s.snd.c.4, V.int IntKind.u8 s.snd.c.5, V.int IntKind.u8 s.snd.c.6, V.int IntKind.u8 s.snd.c.7, V.int IntKind.u8 s.snd.c.8, V.int IntKind.i64 s.snd.2, V.int IntKind.u8 s.rcv.c.1, V.int IntKind.u8 s.rcv.c.2, V.int IntKind.u8 s.rcv.c.3, V.int IntKind.u8 s.rcv.c.4, V.int IntKind.u8 s.rcv.c.5, V.int IntKind.u8 s.rcv.c.6, V.int IntKind.u8 s.rcv.c.7, V.int IntKind.u8 s.rcv.c.8, V.int IntKind.i64 s.rcv.2, V.int IntKind.i64 now, V.int IntKind.i64 e0.t0, V.int IntKind.i64 (min (IntKind.i64.wrap (e0.m + 1)) 2)])), none, none], new := [] }))))))) (Tree.ite (Prt.eqB s.snd p1) (Tree.ite (decide (now < 0)) (Tree.leaf { v := V.int IntKind.i64 0, upd := [none, none, none, none, none], new := [] }) (Tree.ite (decide (now > 4611686018427387904)) (Tree.leaf { v := V.int IntKind.i64 0, upd := [none, none, none, none, none], new := [] }) (Tree.ite (Ck.eqB s.snd.c own) (Tree.leaf { v := V.int IntKind.i64 0, upd := [none, none, none, none, none], new := [] }) (Tree.ite (decide (s.5 < 0)) (Tree.leaf { v := V.int IntKind.i64 0, upd := [none, none, none, none, none], new := [] }) (Tree.ite (decide (s.5 ≥ 255)) (Tree.leaf { v := V.int IntKind.i64 0, upd := [none, none, none, none, none], new := [] }) (Tree.ite (decide (e1.t0 > now)) (Tree.leaf { v := V.int IntKind.i64 0, upd := [none, none, none, none, none], new := [] }) (Tree.leaf { v := V.int IntKind.i64 1, upd := [none, none, none, some (some (Body.cells [V.int IntKind.i64 s.1, V.int IntKind.i64 s.2, V.int IntKind.i64 s.q.1, V.int IntKind.i64 s.q.2, V.int IntKind.i64 s.q.3, V.int IntKind.u8 s.g.1, V.int IntKind.u8 s.g.2, V.int IntKind.u8 s.g.3, V.int IntKind.u8 s.g.4, V.int IntKind.u8 s.g.5, V.int IntKind.u8 s.g.6, V.int IntKind.u8 s.g.7, V.int IntKind.u8 s.g.8, V.int IntKind.i64 s.5, V.int IntKind.u8 s.snd.c.1, V.int IntKind.u8 s.snd.c.2, V.int IntKind.u8 s.snd.c.3, V.int IntKind.u8 s.snd.c.4, V.int IntKind.u8 s.snd.c.5, V.int IntKind.u8 s.snd.c.6, V.int IntKind.u8 s.snd.c.7, V.int IntKind.u8 s.snd.c.8, V.int IntKind.i64 s.snd.2, V.int IntKind.u8 s.rcv.c.1, V.int IntKind.u8 s.rcv.c.2, V.int IntKind.u8 s.rcv.c.3, V.int IntKind.u8 s.rcv.c.4, V.int IntKind.u8 s.rcv.c.5, V.int IntKind.u8 s.rcv.c.6, V.int IntKind.u8 s.rcv.c.7, V.int IntKind.u8 s.rcv.c.8, V.int IntKind.i64 s.rcv.2, V.int IntKind.i64 now, V.int IntKind.i64 e1.t0, V.int IntKind.i64 (min (IntKind.i64.wrap (e1.m + 1)) 2)])), none], new := [] }))))))) (Tree.ite (Prt.eqB s.snd p2) (Tree.ite (decide (now < 0)) (Tree.leaf { v := V.int IntKind.i64 0, upd := [none, none, none, none, none], new := [] }) (Tree.ite (decide (now > 4611686018427387904)) (Tree.leaf { v := V.int IntKind.i64 0, upd := [none, none, none, none, none], new := [] }) (Tree.ite (Ck.eqB s.snd.c own) (Tree.leaf { v := V.int IntKind.i64 0, upd := [none, none, none, none, none], new := [] }) (Tree.ite (decide (s.5 < 0)) (Tree.leaf { v := V.int IntKind.i64 0, upd := [none, none, none, none, none], new := [] }) (Tree.ite (decide (s.5 ≥ 255)) (Tree.leaf { v := V.int IntKind.i64 0, upd := [none, none, none, none, none], new := [] }) (Tree.ite (decide (e2.t0 > now)) (Tree.leaf { v := V.int IntKind.i64 0, upd := [none, none, none, none, none], new := [] }) (Tree.leaf { v := V.int IntKind.i64 1, upd := [none, none, none, none, some (some (Body.cells [V.int IntKind.i64 s.1, V.int IntKind.i64 s.2, V.int IntKind.i64 s.q.1, V.int IntKind.i64 s.q.2, V.int IntKind.i64 s.q.3, V.int IntKind.u8 s.g.1, V.int IntKind.u8 s.g.2, V.int IntKind.u8 s.g.3, V.int IntKind.u8 s.g.4, V.int IntKind.u8 s.g.5, V.int IntKind.u8 s.g.6, V.int IntKind.u8 s.g.7, V.int IntKind.u8 s.g.8, V.int IntKind.i64 s.5, V.int IntKind.u8 s.snd.c.1, V.int IntKind.u8 s.snd.c.2, V.int IntKind.u8 s.snd.c.3, V.int IntKind.u8 s.snd.c.4, V.int IntKind.u8 s.snd.c.5, V.int IntKind.u8 s.snd.c.6, V.int IntKind.u8 s.snd.c.7, V.int IntKind.u8 s.snd.c.8, V.int IntKind.i64 s.snd.2, V.int IntKind.u8 s.rcv.c.1, V.int IntKind.u8 s.rcv.c.2, V.int IntKind.u8 s.rcv.c.3, V.int IntKind.u8 s.rcv.c.4, V.int IntKind.u8 s.rcv.c.5, V.int IntKind.u8 s.rcv.c.6, V.int IntKind.u8 s.rcv.c.7, V.int IntKind.u8 s.rcv.c.8, V.int IntKind.i64 s.rcv.2, V.int IntKind.i64 now, V.int IntKind.i64 e2.t0, V.int IntKind.i64 (min (IntKind.i64.wrap (e2.m + 1)) 2)]))], new := [] }))))))) (Tree.ite (decide (now < 0)) (Tree.leaf { v := V.int IntKind.i64 0, upd := [none, none, none, none, none], new := [] }) (Tree.ite (decide (now > 4611686018427387904)) (Tree.leaf { v := V.int IntKind.i64 0, upd := [none, none, none, none, none], new := [] }) (Tree.ite (Ck.eqB s.snd.c own) (Tree.leaf { v := V.int IntKind.i64 0, upd := [none, none, none, none, none], new := [] }) (Tree.ite (decide (s.5 < 0)) (Tree.leaf { v := V.int IntKind.i64 0, upd := [none, none, none, none, none], new := [] }) (Tree.ite (decide (s.5 ≥ 255)) (Tree.leaf { v := V.int IntKind.i64 0, upd := [none, none, none, none, none], new := [] }) (Tree.ite (Prt.eqB s.snd p0) Tree.fail (Tree.ite (Prt.eqB s.snd p1) Tree.fail (Tree.ite (Prt.eqB s.snd p2) Tree.fail (Tree.leaf { v := V.int IntKind.i64 2, upd := [none, some (some (Body.kv [p0.v, p1.v, p2.v, s.snd.v] [V.ptr 2 0 0 0, V.ptr 3 0 0 0, V.ptr 4 0 0 0, V.ptr 5 0 0 0])), none, none, none], new := [Body.cells [V.int IntKind.i64 s.1, V.int IntKind.i64 s.2, V.int IntKind.i64 s.q.1, V.int IntKind.i64 s.q.2, V.int IntKind.i64 s.q.3, V.int IntKind.u8 s.g.1, V.int IntKind.u8 s.g.2, V.int IntKind.u8 s.g.3, V.int IntKind.u8 s.g.4, V.int IntKind.u8 s.g.5, V.int IntKind.u8 s.g.6, V.int IntKind.u8 s.g.7, V.int IntKind.u8 s.g.8, V.int IntKind.i64 s.5, V.int IntKind.u8 s.snd.c.1, V.int IntKind.u8 s.snd.c.2, V.int IntKind.u8 s.snd.c.3, V.int IntKind.u8 s.snd.c.4, V.int IntKind.u8 s.snd.c.5, V.int IntKind.u8 s.snd.c.6, V.int IntKind.u8 s.snd.c.7, V.int IntKind.u8 s.snd.c.8, V.int IntKind.i64 s.snd.2, V.int IntKind.u8 s.rcv.c.1, V.int IntKind.u8 s.rcv.c.2, V.int IntKind.u8 s.rcv.c.3, V.int IntKind.u8 s.rcv.c.4, V.int IntKind.u8 s.rcv.c.5, V.int IntKind.u8 s.rcv.c.6, V.int IntKind.u8 s.rcv.c.7, V.int IntKind.u8 s.rcv.c.8, V.int IntKind.i64 s.rcv.2, V.int IntKind.i64 now, V.int IntKind.i64 0, V.int IntKind.i64 1]] })))))))))))) from by kernel_rfl]
  simp only [heR, chainE, badB, List.getD_cons_zero, List.getD_cons_succ]
  cases s.snd.eqB p0
  · cases s.snd.eqB p1
    · cases s.snd.eqB p2
      · cases decide (now < 0)
        · cases decide (now > 4611686018427387904)
          · cases s.snd.c.eqB own
            · cases decide (s.st < 0)
              · cases decide (s.st ≥ 255)
                · exact le_of (by kernel_rfl)
                · exact le_of (by kernel_rfl)
              · exact le_of (by kernel_rfl)
            · exact le_of (by kernel_rfl)
          · exact le_of (by kernel_rfl)
        · exact le_of (by kernel_rfl)
      · cases decide (now < 0)
        · cases decide (now > 4611686018427387904)
          · cases s.snd.c.eqB own
            · cases decide (s.st < 0)
              · cases decide (s.st ≥ 255)
                · cases decide (e2.t0 > now)
                  · exact le_of (by kernel_rfl)
                  · exact le_of (by kernel_rfl)
                · exact le_of (by kernel_rfl)
              · exact le_of (by kernel_rfl)
            · exact le_of (by kernel_rfl)
          · exact le_of (by kernel_rfl)
        · exact le_of (by kernel_rfl)
    · cases decide (now < 0)
      · cases decide (now > 4611686018427387904)
        · cases s.snd.c.eqB own
          · cases decide (s.st < 0)
            · cases decide (s.st ≥ 255)
              · cases decide (e1.t0 > now)
                · exact le_of (by kernel_rfl)
                · exact le_of (by kernel_rfl)
              · exact le_of (by kernel_rfl)
            · exact le_of (by kernel_rfl)
          · exact le_of (by kernel_rfl)
        · exact le_of (by kernel_rfl)
      · exact le_of (by kernel_rfl)
  · cases decide (now < 0)
    · cases decide (now > 4611686018427387904)
      · cases s.snd.c.eqB own
        · cases decide (s.st < 0)
          · cases decide (s.st ≥ 255)
            · cases decide (e0.t0 > now)
              · exact le_of (by kernel_rfl)
              · exact le_of (by kernel_rfl)
            · exact le_of (by kernel_rfl)
          · exact le_of (by kernel_rfl)
        · exact le_of (by kernel_rfl)
      · exact le_of (by kernel_rfl)
    · exact le_of (by kernel_rfl)
theorem he_4 (srt : List Prt → List Prt) (own : Ck) (win now : Int) (s : Ste) (p0 : Prt) (e0 : Ent) (p1 : Prt) (e1 : Ent) (p2 : Prt) (e2 : Ent) (p3 : Prt) (e3 : Ent) : ∀ r, (heR srt own win [(p0, e0), (p1, e1), (p2, e2), (p3, e3)] s now).denN = some r → (fFn P (specsOf (heG srt)) (loopsOf []) Try.f11 [.ptr 0 0 0 0, s.v, .int .i64 now] (tabB own win [(p0, e0), (p1, e1), (p2, e2), (p3, e3)])).denN = some r := by
  rw [show (fFn P (specsOf (heG srt)) (loopsOf []) Try.f11 [.ptr 0 0 0 0, s.v, .int .i64 now] (tabB own win [(p0, e0), (p1, e1), (p2, e2), (p3, e3)])).denN = Tree.denN (Tree.ite (Prt.eqB s.snd p0) (Tree.ite (decide (now < 0)) (Tree.leaf { v := V.int IntKind.i64 0, upd := [none, none, none, none, none, none], new := [] }) (Tree.ite (decide (now > 4611686018427387904)) (Tree.leaf { v := V.int IntKind.i64 0, upd := [none, none, none, none, none, none], new := [] }) (Tree.ite (Ck.eqB s.snd.c own) (Tree.leaf { v := V.int IntKind.i64 0, upd := [none, none, none, none, none, none], new := [] }) (Tree.ite (decide (s.5 < 0)) (Tree.leaf { v := V.int IntKind.i64 0, upd := [none, none, none, none, none, none], new := [] }) (Tree.ite (decide (s.5 ≥ 255)) (Tree.leaf { v := V.int IntKind.i64 0, upd := [none, none, none, none, none, none], new := [] }) (Tree.ite (decide (e0.t0 > now)) (Tree.leaf { v := V.int IntKind.i64 0, upd := [none, none, none, none, none, none], new := [] }) (Tree.leaf { v := V.int IntKind.i64 1, upd := [none, none, some (some (Body.cells [V.int IntKind.i64 s.1, V.int IntKind.i64 s.2, V.int IntKind.i64 s.q.1, V.int IntKind.i64 s.q.2, V.int IntKind.i64 s.q.3, V.int IntKind.u8 s.g.1, V.int IntKind.u8 s.g.2, V.int IntKind.u8 s.g.3, V.int IntKind.u8 s.g.4, V.int IntKind.u8 s.g.5, V.int IntKind.u8 s.g.6, V.int IntKind.u8 s.g.7, V.int IntKind.u8 s.g.8, V.int IntKind.i64 s.5, V.int IntKind.u8 s.snd.c.1, V.int IntKind.u8 s.snd.c.2, V.int IntKind.u8 s.snd.c.3, V.int IntKind.u8 s.snd.c.4, V.int IntKind.u8 s.snd.c.5, V.int IntKind.u8 s.snd.c.6, V.int IntKind.u8 s.snd.c.7, V.int IntKind.u8 s.snd.c.8, V.int IntKind.i64 s.snd.2, V.int IntKind.u8 s.rcv.c.1, V.int IntKind.u8 s.rcv.c.2, V.int IntKind.u8 s.rcv.c.3, V.int IntKind.u8 s.rcv.c.4, V.int IntKind.u8 s.rcv.c.5, V.int IntKind.u8 s.rcv.c.6, V.int IntKind.u8 s.rcv.c.7, V.int IntKind.u8 s.rcv.c.8, V.int IntKind.i64 s.rcv.2, V.int IntKind.i64 now, V.int IntKind.i64 e0.t0, V.int IntKind.i64 (min (IntKind.i64.wrap (e0.m + 1)) 2)])), none, none, none], new := [] }))))))) (Tree.ite (Prt.eqB s.snd p1) (Tree.ite (decide (now < 0)) (Tree.leaf { v := V.int IntKind.i64 0, upd := [none, none, none, none, none, none], new := [] }) (Tree.ite (decide (now > 4611686018427387904)) (Tree.leaf { v := V.int IntKind.i64 0, upd := [none, none, none, none, none, none], new := [] }) (Tree.ite (Ck.eqB s.snd.c own) (Tree.leaf { v := V.int IntKind.i64 0, upd := [none, none, none, none, none, none], new := [] }) (Tree.ite (decide (s.5 < 0)) (Tree.leaf { v := V.int IntKind.i64 0, upd := [none, none, none, none, none, none], new := [] }) (Tree.ite (decide (s.5 ≥ 255)) (Tree.leaf { v := V.int IntKind.i64 0, upd := [none, none, none, none, none, none], new := [] }) (Tree.ite (decide (e1.t0 > now)) (Tree.leaf { v := V.int IntKind.i64 0, upd := [none, none, none, none, none, none], new := [] }) (Tree.leaf { v := V.int IntKind.i64 1, upd := [none, none, none, some (some (Body.cells [V.int IntKind.i64 s.1, V.int IntKind.i64 s.2, V.int IntKind.i64 s.q.1, V.int IntKind.i64 s.q.2, V.int IntKind.i64 s.q.3, V.int IntKind.u8 s.g.1, V.int IntKind.u8 s.g.2, V.int IntKind.u8 s.g.3, V.int IntKind.u8 s.g.4, V.int IntKind.u8 s.g.5, V.int IntKind.u8 s.g.6, V.int IntKind.u8 s.g.7, V.int IntKind.u8 s.g.8, V.int IntKind.i64 s.5, V.int IntKind.u8 s.snd.c.1, V.int IntKind.u8 s.snd.c.2, V.int IntKind.u8 s.snd.c.3, V.int IntKind.u8 s.snd.c.4, V.int IntKind.u8 s.snd.c.5, V.int IntKind.u8 s.snd.c.6, V.int IntKind.u8 s.snd.c.7, V.int IntKind.u8 s.snd.c.8, V.int IntKind.i64 s.snd.2, V.int IntKind.u8 s.rcv.c.1, V.int IntKind.u8 s.rcv.c.2, V.int IntKind.u8 s.rcv.c.3, V.int IntKind.u8 s.rcv.c.4, V.int IntKind.u8 s.rcv.c.5, V.int IntKind.u8 s.rcv.c.6, V.int IntKind.u8 s.rcv.c.7, V.int IntKind.u8 s.rcv.c.8, V.int IntKind.i64 s.rcv.2, V.int IntKind.i64 now, V.int IntKind.i64 e1.t0, V.int IntKind.i64 (min (IntKind.i64.wrap (e1.m + 1)) 2)])), none, none], new := [] }))))))) (Tree.ite (Prt.eqB s.snd p2) (Tree.ite (decide (now < 0)) (Tree.leaf { v := V.int IntKind.i64 0, upd := [none, none, none, none, none, none], new := [] }) (Tree.ite (decide (now > 4611686018427387904)) (Tree.leaf { v := V.int IntKind.i64 0, upd := [none, none, none, none, none, none], new := [] }) (Tree.ite (Ck.eqB s.snd.c own) (Tree.leaf { v := V.int IntKind.i64 0, upd := [none, none, none, none, none, none], new := [] }) (Tree.ite (decide (s.5 < 0)) (Tree.leaf { v := V.int IntKind.i64 0, upd := [none, none, none, none, none, none], new := [] }) (Tree.ite (decide (s.5 ≥ 255)) (Tree.leaf { v := V.int IntKind.i64 0, upd := [none, none, none, none, none, none], new := [] }) (Tree.ite (decide (e2.t0 > now)) (Tree.leaf { v := V.int IntKind.i64 0, upd := [none, none, none, none, none, none], new := [] }) (Tree.leaf { v := V.int IntKind.i64 1, upd := [none, none, none, none, some (some (Body.cells [V.int IntKind.i64 s.1, V.int IntKind.i64 s.2, V.int IntKind.i64 s.q.1, V.int IntKind.i64 s.q.2, V.int IntKind.i64 s.q.3, V.int IntKind.u8 s.g.1, V.int IntKind.u8 s.g.2, V.int IntKind.u8 s.g.3, V.int IntKind.u8 s.g.4, V.int IntKind.u8 s.g.5, V.int IntKind.u8 s.g.6, V.int IntKind.u8 s.g.7, V.int IntKind.u8 s.g.8, V.int IntKind.i64 s.5, V.int IntKind.u8 s.snd.c.1, V.int IntKind.u8 s.snd.c.2, V.int IntKind.u8 s.snd.c.3, V.int IntKind.u8 s.snd.c.4, V.int IntKind.u8 s.snd.c.5, V.int IntKind.u8 s.snd.c.6, V.int IntKind.u8 s.snd.c.7, V.int IntKind.u8 s.snd.c.8, V.int IntKind.i64 s.snd.2, V.int IntKind.u8 s.rcv.c.1, V.int IntKind.u8 s.rcv.c.2, V.int IntKind.u8 s.rcv.c.3, V.int IntKind.u8 s.rcv.c.4, V.int IntKind.u8 s.rcv.c.5, V.int IntKind.u8 s.rcv.c.6, V.int IntKind.u8 s.rcv.c.7, V.int IntKind.u8 s.rcv.c.8, V.int IntKind.i64 s.rcv.2, V.int IntKind.i64 now, V.int IntKind.i64 e2.t0, V.int IntKind.i64 (min (IntKind.i64.wrap (e2.m + 1)) 2)])), none], new := [] }))))))) (Tree.ite (Prt.eqB s.snd p3) (Tree.ite (decide (now < 0)) (Tree.leaf { v := V.int IntKind.i64 0, upd := [none, none, none, none, none, none], new := [] }) (Tree.ite (decide (now > 4611686018427387904)) (Tree.leaf { v := V.int IntKind.i64 0, upd := [none, none, none, none, none, none], new := [] }) (Tree.ite (Ck.eqB s.snd.c own) (Tree.leaf { v := V.int IntKind.i64 0, upd := [none, none, none, none, none, none], new := [] }) (Tree.ite (decide (s.5 < 0)) (Tree.leaf { v := V.int IntKind.i64 0, upd := [none, none, none, none, none, none], new := [] }) (Tree.ite (decide (s.5 ≥ 255)) (Tree.leaf { v := V.int IntKind.i64 0, upd := [none, none, none, none, none, none], new := [] }) (Tree.ite (decide (e3.t0 > now)) (Tree.leaf { v := V.int IntKind.i64 0, upd := [none, none, none, none, none, none], new := [] }) (Tree.leaf { v := V.int IntKind.i64 1, upd := [none, none, none, none, none, some (some (Body.cells [V.int IntKind.i64 s.1, V.int IntKind.i64 s.2, V.int IntKind.i64 s.q.1, V.int IntKind.i64 s.q.2, V.int IntKind.i64 s.q.3, V.int IntKind.u8 s.g.1, V.int IntKind.u8 s.g.2, V.int IntKind.u8 s.g.3, V.int IntKind.u8 s.g.4, V.int IntKind.u8 s.g.5, V.int IntKind.u8 s.g.6, V.int IntKind.u8 s.g.7, V.int IntKind.u8 s.g.8, V.int IntKind.i64 s.5, V.int IntKind.u8 s.snd.c.1, V.int IntKind.u8 s.snd.c.2, V.int IntKind.u8 s.snd.c.3, V.int IntKind.u8 s.snd.c.4, V.int IntKind.u8 s.snd.c.5, V.int IntKind.u8 s.snd.c.6, V.int IntKind.u8 s.snd.c.7, V.int IntKind.u8 s.snd.c.8, V.int IntKind.i64 s.snd.2, V.int IntKind.u8 s.rcv.c.1, V.int IntKind.u8 s.rcv.c.2, V.int IntKind.u8 s.rcv.c.3, V.int IntKind.u8 s.rcv.c.4, V.int IntKind.u8 s.rcv.c.5, V.int IntKind.u8 s.rcv.c.6, V.int IntKind.u8 s.rcv.c.7, V.int IntKind.u8 s.rcv.c.8, V.int IntKind.i64 s.rcv.2, V.int IntKind.i64 now, V.int IntKind.i64 e3.t0, V.int IntKind.i64 (min (IntKind.i64.wrap (e3.m + 1)) 2)]))], new := [] }))))))) (Tree.ite (decide (now < 0)) (Tree.leaf { v := V.int IntKind.i64 0, upd := [none, none, none, none, none, none], new := [] }) (Tree.ite (decide (now > 4611686018427387904)) (Tree.leaf { v := V.int IntKind.i64 0, upd := [none, none, none, none, none, none], new := [] }) (Tree.ite (Ck.eqB s.snd.c own) (Tree.leaf { v := V.int IntKind.i64 0, upd := [none, none, none, none, none, none], new := [] }) (Tree.ite (decide (s.5 < 0)) (Tree.leaf { v := V.int IntKind.i64 0, upd := [none, none, none, none, none, none], new := [] }) (Tree.ite (decide (s.5 ≥ 255)) (Tree.leaf { v := V.int IntKind.i64 0, upd := [none, none, none, none, none, none], new := [] }) (Tree.ite (Prt.eqB s.snd p0) Tree.fail (Tree.ite (Prt.eqB s.snd p1) Tree.fail (Tree.ite (Prt.eqB s.snd p2) Tree.fail (Tree.ite (Prt.eqB s.snd p3) Tree.fail (Tree.leaf { v := V.int IntKind.i64 2, upd := [none, some (some (Body.kv [p0.v, p1.v, p2.v, p3.v, s.snd.v] [V.ptr 2 0 0 0, V.ptr 3 0 0 0, V.ptr 4 0 0 0, V.ptr 5 0 0 0, V.ptr 6 0 0 0])), none, none, none, none], new := [Body.cells [V.int IntKind.i64 s.1, V.int IntKind.i64 s.2, V.int IntKind.i64 s.q.1, V.int IntKind.i64 s.q.2, V.int IntKind.i64 s.q.3, V.int IntKind.u8 s.g.1, V.int IntKind.u8 s.g.2, V.int IntKind.u8 s.g.3, V.int IntKind.u8 s.g.4, V.int IntKind.u8 s.g.5, V.int IntKind.u8 s.g.6, V.int IntKind.u8 s.g.7, V.int IntKind.u8 s.g.8, V.int IntKind.i64 s.5, V.int IntKind.u8 s.snd.c.1, V.int IntKind.u8 s.snd.c.2, V.int IntKind.u8 s.snd.c.3, V.int IntKind.u8 s.snd.c.4, V.int IntKind.u8 s.snd.c.5, V.int IntKind.u8 s.snd.c.6, V.int IntKind.u8 s.snd.c.7, V.int IntKind.u8 s.snd.c.8, V.int IntKind.i64 s.snd.2, V.int IntKind.u8 s.rcv.c.1, V.int IntKind.u8 s.rcv.c.2, V.int IntKind.u8 s.rcv.c.3, V.int IntKind.u8 s.rcv.c.4, V.int IntKind.u8 s.rcv.c.5, V.int IntKind.u8 s.rcv.c.6, V.int IntKind.u8 s.rcv.c.7, V.int IntKind.u8 s.rcv.c.8, V.int IntKind.i64 s.rcv.2, V.int IntKind.i64 now, V.int IntKind.i64 0, V.int IntKind.i64 1]] })))))))))))))) from by kernel_rfl]
  simp only [heR, chainE, badB, List.getD_cons_zero, List.getD_cons_succ]
  cases s.snd.eqB p0
  · cases s.snd.eqB p1
    · cases s.snd.eqB p2
      · cases s.snd.eqB p3
        · cases decide (now < 0)
          · cases decide (now > 4611686018427387904)
            · cases s.snd.c.eqB own
              · cases decide (s.st < 0)
                · cases decide (s.st ≥ 255)
                  · exact le_of (by kernel_rfl)
                  · exact le_of (by kernel_rfl)
                · exact le_of (by kernel_rfl)
              · exact le_of (by kernel_rfl)
            · exact le_of (by kernel_rfl)
          · exact le_of (by kernel_rfl)
        · cases decide (now < 0)
          · cases decide (now > 4611686018427387904)
            · cases s.snd.c.eqB own
              · cases decide (s.st < 0)
                · cases decide (s.st ≥ 255)
                  · cases decide (e3.t0 > now)
                    · exact le_of (by kernel_rfl)
                    · exact le_of (by kernel_rfl)
                  · exact le_of (by kernel_rfl)
                · exact le_of (by kernel_rfl)
              · exact le_of (by kernel_rfl)
            · exact le_of (by kernel_rfl)
          · exact le_of (by kernel_rfl)
      · cases decide (now < 0)
        · cases decide (now > 4611686018427387904)
          · cases s.snd.c.eqB own
            · cases decide (s.st < 0)
              · cases decide (s.st ≥ 255)
                · cases decide (e2.t0 > now)
                  · exact le_of (by kernel_rfl)
                  · exact le_of (by kernel_rfl)
                · exact le_of (by kernel_rfl)
              · exact le_of (by kernel_rfl)
            · exact le_of (by kernel_rfl)
          · exact le_of (by kernel_rfl)
        · exact le_of (by kernel_rfl)
    · cases decide (now < 0)
      · cases decide (now > 4611686018427387904)
        · cases s.snd.c.eqB own
          · cases decide (s.st < 0)
            · cases decide (s.st ≥ 255)
              · cases decide (e1.t0 > now)
                · exact le_of (by kernel_rfl)
                · exact le_of (by kernel_rfl)
              · exact le_of (by kernel_rfl)
            · exact le_of (by kernel_rfl)
          · exact le_of (by kernel_rfl)
        · exact le_of (by kernel_rfl)
      · exact le_of (by kernel_rfl)
  · cases decide (now < 0)
    · cases decide (now > 4611686018427387904)
      · cases s.snd.c.eqB own
        · cases decide (s.st < 0)
          · cases decide (s.st ≥ 255)
            · cases decide (e0.t0 > now)
              · exact le_of (by kernel_rfl)
              · exact le_of (by kernel_rfl)
            · exact le_of (by kernel_rfl)
          · exact le_of (by kernel_rfl)
        · exact le_of (by kernel_rfl)
      · exact le_of (by kernel_rfl)
    · exact le_of (by kernel_rfl)
theorem he_5 (srt : List Prt → List Prt) (own : Ck) (win now : Int) (s : Ste) (p0 : Prt) (e0 : Ent) (p1 : Prt) (e1 : Ent) (p2 : Prt) (e2 : Ent) (p3 : Prt) (e3 : Ent) (p4 : Prt) (e4 : Ent) : ∀ r, (heR srt own win [(p0, e0), (p1, e1), (p2, e2), (p3, e3), (p4, e4)] s now).denN = some r → (fFn P (specsOf (heG srt)) (loopsOf []) Try.f11 [.ptr 0 0 0 0, s.v, .int .i64 now] (tabB own win [(p0, e0), (p1, e1), (p2, e2), (p3, e3), (p4, e4)])).denN = some r := by
  rw [show (fFn P (specsOf (heG srt)) (loopsOf []) Try.f11 [.ptr 0 0 0 0, s.v, .int .i64 now] (tabB own win [(p0, e0), (p1, e1), (p2, e2), (p3, e3), (p4, e4)])).denN = Tree.denN (Tree.ite (Prt.eqB s.snd p0) (Tree.ite (decide (now < 0)) (Tree.leaf { v := V.int IntKind.i64 0, upd := [none, none, none, none, none, none, none], new := [] }) (Tree.ite (decide (now > 4611686018427387904)) (Tree.leaf { v := V.int IntKind.i64 0, upd := [none, none, none, none, none, none, none], new := [] }) (Tree.ite (Ck.eqB s.snd.c own) (Tree.leaf { v := V.int IntKind.i64 0, upd := [none, none, none, none, none, none, none], new := [] }) (Tree.ite (decide (s.5 < 0)) (Tree.leaf { v := V.int IntKind.i64 0, upd := [none, none, none, none, none, none, none], new := [] }) (Tree.ite (decide (s.5 ≥ 255)) (Tree.leaf { v := V.int IntKind.i64 0, upd := [none, none, none, none, none, none, none], new := [] }) (Tree.ite (decide (e0.t0 > now)) (Tree.leaf { v := V.int IntKind.i64 0, upd := [none, none, none, none, none, none, none], new := [] }) (Tree.leaf { v := V.int IntKind.i64 1, upd := [none, none, some (some (Body.cells [V.int IntKind.i64 s.1, V.int IntKind.i64 s.2, V.int IntKind.i64 s.q.1, V.int IntKind.i64 s.q.2, V.int IntKind.i64 s.q.3, V.int IntKind.u8 s.g.1, V.int IntKind.u8 s.g.2, V.int IntKind.u8 s.g.3, V.int IntKind.u8 s.g.4, V.int IntKind.u8 s.g.5, V.int IntKind.u8 s.g.6, V.int IntKind.u8 s.g.7, V.int IntKind.u8 s.g.8, V.int IntKind.i64 s.5, V.int IntKind.u8 s.snd.c.1, V.int IntKind.u8 s.snd.c.2, V.int IntKind.u8 s.snd.c.3, V.int IntKind.u8 s.snd.c.4, V.int IntKind.u8 s.snd.c.5, V.int IntKind.u8 s.snd.c.6, V.int IntKind.u8 s.snd.c.7, V.int IntKind.u8 s.snd.c.8, V.int IntKind.i64 s.snd.2, V.int IntKind.u8 s.rcv.c.1, V.int IntKind.u8 s.rcv.c.2, V.int IntKind.u8 s.rcv.c.3, V.int IntKind.u8 s.rcv.c.4, V.int IntKind.u8 s.rcv.c.5, V.int IntKind.u8 s.rcv.c.6, V.int IntKind.u8 s.rcv.c.7, V.int IntKind.u8 s.rcv.c.8, V.int IntKind.i64 s.rcv.2, V.int IntKind.i64 now, V.int IntKind.i64 e0.t0, V.int IntKind.i64 (min (IntKind.i64.wrap (e0.m + 1)) 2)])), none, none, none, none], new := [] }))))))) (Tree.ite (Prt.eqB s.snd p1) (Tree.ite (decide (now < 0)) (Tree.leaf { v := V.int IntKind.i64 0, upd := [none, none, none, none, none, none, none], new := [] }) (Tree.ite (decide (now > 4611686018427387904)) (Tree.leaf { v := V.int IntKind.i64 0, upd := [none, none, none, none, none, none, none], new := [] }) (Tree.ite (Ck.eqB s.snd.c own) (Tree.leaf { v := V.int IntKind.i64 0, upd := [none, none, none, none, none, none, none], new := [] }) (Tree.ite (decide (s.5 < 0)) (Tree.leaf { v := V.int IntKind.i64 0, upd := [none, none, none, none, none, none, none], new := [] }) (Tree.ite (decide (s.5 ≥ 255)) (Tree.leaf { v := V.int IntKind.i64 0, upd := [none, none, none, none, none, none, none], new := [] }) (Tree.ite (decide (e1.t0 > now)) (Tree.leaf { v := V.int IntKind.i64 0, upd := [none, none, none, none, none, none, none], new := [] }) (Tree.leaf { v := V.int IntKind.i64 1, upd := [none, none, none, some (some (Body.cells [V.int IntKind.i64 s.1, V.int IntKind.i64 s.2, V.int IntKind.i64 s.q.1, V.int IntKind.i64 s.q.2, V.int IntKind.i64 s.q.3, V.int IntKind.u8 s.g.1, V.int IntKind.u8 s.g.2, V.int IntKind.u8 s.g.3, V.int IntKind.u8 s.g.4, V.int IntKind.u8 s.g.5, V.int IntKind.u8 s.g.6, V.int IntKind.u8 s.g.7, V.int IntKind.u8 s.g.8, V.int IntKind.i64 s.5, V.int IntKind.u8 s.snd.c.1, V.int IntKind.u8 s.snd.c.2, V.int IntKind.u8 s.snd.c.3, V.int IntKind.u8 s.snd.c.4, V.int IntKind.u8 s.snd.c.5, V.int IntKind.u8 s.snd.c.6, V.int IntKind.u8 s.snd.c.7, V.int IntKind.u8 s.snd.c.8, V.int IntKind.i64 s.snd.2, V.int IntKind.u8 s.rcv.c.1, V.int IntKind.u8 s.rcv.c.2, V.int IntKind.u8 s.rcv.c.3, V.int IntKind.u8 s.rcv.c.4, V.int IntKind.u8 s.rcv.c.5, V.int IntKind.u8 s.rcv.c.6, V.int IntKind.u8 s.rcv.c.7, V.int IntKind.u8 s.rcv.c.8, V.int IntKind.i64 s.rcv.2, V.int IntKind.i64 now, V.int IntKind.i64 e1.t0, V.int IntKind.i64 (min (IntKind.i64.wrap (e1.m + 1)) 2)])), none, none, none], new := [] }))))))) (Tree.ite (Prt.eqB s.snd p2) (Tree.ite (decide (now < 0)) (Tree.leaf { v := V.int IntKind.i64 0, upd := [none, none, none, none, none, none, none], new := [] }) (Tree.ite (decide (now > 4611686018427387904)) (Tree.leaf { v := V.int IntKind.i64 0, upd := [none, none, none, none, none, none, none], new := [] }) (Tree.ite (Ck.eqB s.snd.c own) (Tree.leaf { v := V.int IntKind.i64 0, upd := [none, none, none, none, none, none, none], new := [] }) (Tree.ite (decide (s.5 < 0)) (Tree.leaf { v := V.int IntKind.i64 0, upd := [none, none, none, none, none, none, none], new := [] }) (Tree.ite (decide (s.5 ≥ 255)) (Tree.leaf { v := V.int IntKind.i64 0, upd := [none, none, none, none, none, none, none], new := [] }) (Tree.ite (decide (e2.t0 > now)) (Tree.leaf { v := V.int IntKind.i64 0, upd := [none, none, none, none, none, none, none], new := [] }) (Tree.leaf { v := V.int IntKind.i64 1, upd := [none, none, none, none, some (some (Body.cells [V.int IntKind.i64 s.1, V.int IntKind.i64 s.2, V.int IntKind.i64 s.q.1, V.int IntKind.i64 s.q.2, V.int IntKind.i64 s.q.3, V.int IntKind.u8 s.g.1, V.int IntKind.u8 s.g.2, V.int IntKind.u8 s.g.3, V.int IntKind.u8 s.g.4, V.int IntKind.u8 s.g.5, V.int IntKind.u8 s.g.6, V.int IntKind.u8 s.g.7, V.int IntKind.u8 s.g.8, V.int IntKind.i64 s.5, V.int IntKind.u8 s.snd.c.1, V.int IntKind.u8 s.snd.c.2, V.int IntKind.u8 s.snd.c.3, V.int IntKind.u8 s.snd.c.4, V.int IntKind.u8 s.snd.c.5, V.int IntKind.u8 s.snd.c.6, V.int IntKind.u8 s.snd.c.7, V.int IntKind.u8 s.snd.c.8, V.int IntKind.i64 s.snd.2, V.int IntKind.u8 s.rcv.c.1, V.int IntKind.u8 s.rcv.c.2, V.int IntKind.u8 s.rcv.c.3, V.int IntKind.u8 s.rcv.c.4, V.int IntKind.u8 s.rcv.c.5, V.int IntKind.u8 s.rcv.c.6, V.int IntKind.u8 s.rcv.c.7, V.int IntKind.u8 s.rcv.c.8, V.int IntKind.i64 s.rcv.2, V.int IntKind.i64 now, V.int IntKind.i64 e2.t0, V.int IntKind.i64 (min (IntKind.i64.wrap (e2.m + 1)) 2)])), none, none], new := [] }))))))) (Tree.ite (Prt.eqB s.snd p3) (Tree.ite (decide (now < 0)) (Tree.leaf { v := V.int IntKind.i64 0, upd := [none, none, none, none, none, none, none], new := [] }) (Tree.ite (decide (now > 4611686018427387904)) (Tree.leaf { v := V.int IntKind.i64 0, upd := [none, none, none, none, none, none, none], new := [] }) (Tree.ite (Ck.eqB s.snd.c own) (Tree.leaf { v := V.int IntKind.i64 0, upd := [none, none, none, none, none, none, none], new := [] }) (Tree.ite (decide (s.5 < 0)) (Tree.leaf { v := V.int IntKind.i64 0, upd := [none, none, none, none, none, none, none], new := [] }) (Tree.ite (decide (s.5 ≥ 255)) (Tree.leaf { v := V.int IntKind.i64 0, upd := [none, none, none, none, none, none, none], new := [] }) (Tree.ite (decide (e3.t0 > now)) (Tree.leaf { v := V.int IntKind.i64 0, upd := [none, none, none, none, none, none, none], new := [] }) (Tree.leaf { v := V.int IntKind.i64 1, upd := [none, none, none, none, none, some (some (Body.cells [V.int IntKind.i64 s.1, V.int IntKind.i64 s.2, V.int IntKind.i64 s.q.1, V.int IntKind.i64 s.q.2, V.int IntKind.i64 s.q.3, V.int IntKind.u8 s.g.1, V.int IntKind.u8 s.g.2, V.int IntKind.u8 s.g.3, V.int IntKind.u8 s.g.4, V.int IntKind.u8 s.g.5, V.int IntKind.u8 s.g.6, V.int IntKind.u8 s.g.7, V.int IntKind.u8 s.g.8, V.int IntKind.i64 s.5, V.int IntKind.u8 s.snd.c.1, V.int IntKind.u8 s.snd.c.2, V.int IntKind.u8 s.snd.c.3, V.int IntKind.u8 s.snd.c.4, V.int IntKind.u8 s.snd.c.5, V.int IntKind.u8 s.snd.c.6, V.int IntKind.u8 s.snd.c.7, V.int IntKind.u8 s.snd.c.8, V.int IntKind.i64 s.snd.2, V.int IntKind.u8 s.rcv.c.1, V.int IntKind.u8 s.rcv.c.2, V.int IntKind.u8 s.rcv.c.3, V.int IntKind.u8 s.rcv.c.4, V.int IntKind.u8 s.rcv.c.5, V.int IntKind.u8 s.rcv.c.6, V.int IntKind.u8 s.rcv.c.7, V.int IntKind.u8 s.rcv.c.8, V.int IntKind.i64 s.rcv.2, V.int IntKind.i64 now, V.int IntKind.i64 e3.t0, V.int IntKind.i64 (min (IntKind.i64.wrap (e3.m + 1)) 2)])), none], new := [] }))))))) (Tree.ite (Prt.eqB s.snd p4) (Tree.ite (decide (now < 0)) (Tree.leaf { v := V.int IntKind.i64 0, upd := [none, none, none, none, none, none, none], new := [] }) (Tree.ite (decide (now > 4611686018427387904)) (Tree.leaf { v := V.int IntKind.i64 0, upd := [none, none, none, none, none, none, none], new := [] }) (Tree.ite (Ck.eqB s.snd.c own) (Tree.leaf { v := V.int IntKind.i64 0, upd := [none, none, none, none, none, none, none], new := [] }) (Tree.ite (decide (s.5 < 0)) (Tree.leaf { v := V.int IntKind.i64 0, upd := [none, none, none, none, none, none, none], new := [] }) (Tree.ite (decide (s.5 ≥ 255)) (Tree.leaf { v := V.int IntKind.i64 0, upd := [none, none, none, none, none, none, none], new := [] }) (Tree.ite (decide (e4.t0 > now)) (Tree.leaf { v := V.int IntKind.i64 0, upd := [none, none, none, none, none, none, none], new := [] }) (Tree.leaf { v := V.int IntKind.i64 1, upd := [none, none, none, none, none, none, some (some (Body.cells [V.int IntKind.i64 s.1, V.int IntKind.i64 s.2, V.int IntKind.i64 s.q.1, V.int IntKind.i64 s.q.2, V.int IntKind.i64 s.q.3, V.int IntKind.u8 s.g.1, V.int IntKind.u8 s.g.2, V.int IntKind.u8 s.g.3, V.int IntKind.u8 s.g.4, V.int IntKind.u8 s.g.5, V.int IntKind.u8 s.g.6, V.int IntKind.u8 s.g.7, V.int IntKind.u8 s.g.8, V.int IntKind.i64 s.5, V.int IntKind.u8 s.snd.c.1, V.int IntKind.u8 s.snd.c.2, V.int IntKind.u8 s.snd.c.3, V.int IntKind.u8 s.snd.c.4, V.int IntKind.u8 s.snd.c.5, V.int IntKind.u8 s.snd.c.6, V.int IntKind.u8 s.snd.c.7, V.int IntKind.u8 s.snd.c.8, V.int IntKind.i64 s.snd.2, V.int IntKind.u8 s.rcv.c.1, V.int IntKind.u8 s.rcv.c.2, V.int IntKind.u8 s.rcv.c.3, V.int IntKind.u8 s.rcv.c.4, V.int IntKind.u8 s.rcv.c.5, V.int IntKind.u8 s.rcv.c.6, V.int IntKind.u8 s.rcv.c.7, V.int IntKind.u8 s.rcv.c.8, V.int IntKind.i64 s.rcv.2, V.int IntKind.i64 now, V.int IntKind.i64 e4.t0, V.int IntKind.i64 (min (IntKind.i64.wrap (e4.m + 1)) 2)]))], new := [] }))))))) (Tree.ite (decide (now < 0)) (Tree.leaf { v := V.int IntKind.i64 0, upd := [none, none, none, none, none, none, none], new := [] }) (Tree.ite (decide (now > 4611686018427387904)) (Tree.leaf { v := V.int IntKind.i64 0, upd := [none, none, none, none, none, none, none], new := [] }) (Tree.ite (Ck.eqB s.snd.c own) (Tree.leaf { v := V.int IntKind.i64 0, upd := [none, none, none, none, none, none, none], new := [] }) (Tree.ite (decide (s.5 < 0)) (Tree.leaf { v := V.int IntKind.i64 0, upd := [none, none, none, none, none, none, none], new := [] }) (Tree.ite (decide (s.5 ≥ 255)) (Tree.leaf { v := V.int IntKind.i64 0, upd := [none, none, none, none, none, none, none], new := [] }) (Tree.ite (!ovB srt [(p0, e0), (p1, e1), (p2, e2), (p3, e3), (p4, e4)] win now) (Tree.leaf { v := V.int IntKind.i64 4, upd := [none, none, none, none, none, none, none], new := [] }) (Tree.ite (Prt.eqB (ovP srt [(p0, e0), (p1, e1), (p2, e2), (p3, e3), (p4, e4)] win now) p0) (Tree.ite (Prt.eqB s.snd p1) Tree.fail (Tree.ite (Prt.eqB s.snd p2) Tree.fail (Tree.ite (Prt.eqB s.snd p3) Tree.fail (Tree.ite (Prt.eqB s.snd p4) Tree.fail (Tree.leaf { v := V.int IntKind.i64 3, upd := [none, some (some (Body.kv [p1.v, p2.v, p3.v, p4.v, s.snd.v] [V.ptr 3 0 0 0, V.ptr 4 0 0 0, V.ptr 5 0 0 0, V.ptr 6 0 0 0, V.ptr 7 0 0 0])), none, none, none, none, none], new := [Body.cells [V.int IntKind.i64 s.1, V.int IntKind.i64 s.2, V.int IntKind.i64 s.q.1, V.int IntKind.i64 s.q.2, V.int IntKind.i64 s.q.3, V.int IntKind.u8 s.g.1, V.int IntKind.u8 s.g.2, V.int IntKind.u8 s.g.3, V.int IntKind.u8 s.g.4, V.int IntKind.u8 s.g.5, V.int IntKind.u8 s.g.6, V.int IntKind.u8 s.g.7, V.int IntKind.u8 s.g.8, V.int IntKind.i64 s.5, V.int IntKind.u8 s.snd.c.1, V.int IntKind.u8 s.snd.c.2, V.int IntKind.u8 s.snd.c.3, V.int IntKind.u8 s.snd.c.4, V.int IntKind.u8 s.snd.c.5, V.int IntKind.u8 s.snd.c.6, V.int IntKind.u8 s.snd.c.7, V.int IntKind.u8 s.snd.c.8, V.int IntKind.i64 s.snd.2, V.int IntKind.u8 s.rcv.c.1, V.int IntKind.u8 s.rcv.c.2, V.int IntKind.u8 s.rcv.c.3, V.int IntKind.u8 s.rcv.c.4, V.int IntKind.u8 s.rcv.c.5, V.int IntKind.u8 s.rcv.c.6, V.int IntKind.u8 s.rcv.c.7, V.int IntKind.u8 s.rcv.c.8, V.int IntKind.i64 s.rcv.2, V.int IntKind.i64 now, V.int IntKind.i64 0, V.int IntKind.i64 1]] }))))) (Tree.ite (Prt.eqB (ovP srt [(p0, e0), (p1, e1), (p2, e2), (p3, e3), (p4, e4)] win now) p1) (Tree.ite (Prt.eqB s.snd p0) Tree.fail (Tree.ite (Prt.eqB s.snd p2) Tree.fail (Tree.ite (Prt.eqB s.snd p3) Tree.fail (Tree.ite (Prt.eqB s.snd p4) Tree.fail (Tree.leaf { v := V.int IntKind.i64 3, upd := [none, some (some (Body.kv [p0.v, p2.v, p3.v, p4.v, s.snd.v] [V.ptr 2 0 0 0, V.ptr 4 0 0 0, V.ptr 5 0 0 0, V.ptr 6 0 0 0, V.ptr 7 0 0 0])), none, none, none, none, none], new := [Body.cells [V.int IntKind.i64 s.1, V.int IntKind.i64 s.2, V.int IntKind.i64 s.q.1, V.int IntKind.i64 s.q.2, V.int IntKind.i64 s.q.3, V.int IntKind.u8 s.g.1, V.int IntKind.u8 s.g.2, V.int IntKind.u8 s.g.3, V.int IntKind.u8 s.g.4, V.int IntKind.u8 s.g.5, V.int IntKind.u8 s.g.6, V.int IntKind.u8 s.g.7, V.int IntKind.u8 s.g.8, V.int IntKind.i64 s.5, V.int IntKind.u8 s.snd.c.1, V.int IntKind.u8 s.snd.c.2, V.int IntKind.u8 s.snd.c.3, V.int IntKind.u8 s.snd.c.4, V.int IntKind.u8 s.snd.c.5, V.int IntKind.u8 s.snd.c.6, V.int IntKind.u8 s.snd.c.7, V.int IntKind.u8 s.snd.c.8, V.int IntKind.i64 s.snd.2, V.int IntKind.u8 s.rcv.c.1, V.int IntKind.u8 s.rcv.c.2, V.int IntKind.u8 s.rcv.c.3, V.int IntKind.u8 s.rcv.c.4, V.int IntKind.u8 s.rcv.c.5, V.int IntKind.u8 s.rcv.c.6, V.int IntKind.u8 s.rcv.c.7, V.int IntKind.u8 s.rcv.c.8, V.int IntKind.i64 s.rcv.2, V.int IntKind.i64 now, V.int IntKind.i64 0, V.int IntKind.i64 1]] }))))) (Tree.ite (Prt.eqB (ovP srt [(p0, e0), (p1, e1), (p2, e2), (p3, e3), (p4, e4)] win now) p2) (Tree.ite (Prt.eqB s.snd p0) Tree.fail (Tree.ite (Prt.eqB s.snd p1) Tree.fail (Tree.ite (Prt.eqB s.snd p3) Tree.fail (Tree.ite (Prt.eqB s.snd p4) Tree.fail (Tree.leaf { v := V.int IntKind.i64 3, upd := [none, some (some (Body.kv [p0.v, p1.v, p3.v, p4.v, s.snd.v] [V.ptr 2 0 0 0, V.ptr 3 0 0 0, V.ptr 5 0 0 0, V.ptr 6 0 0 0, V.ptr 7 0 0 0])), none, none, none, none, none], new := [Body.cells [V.int IntKind.i64 s.1, V.int IntKind.i64 s.2, V.int IntKind.i64 s.q.1, V.int IntKind.i64 s.q.2, V.int IntKind.i64 s.q.3, V.int IntKind.u8 s.g.1, V.int IntKind.u8 s.g.2, V.int IntKind.u8 s.g.3, V.int IntKind.u8 s.g.4, V.int IntKind.u8 s.g.5, V.int IntKind.u8 s.g.6, V.int IntKind.u8 s.g.7, V.int IntKind.u8 s.g.8, V.int IntKind.i64 s.5, V.int IntKind.u8 s.snd.c.1, V.int IntKind.u8 s.snd.c.2, V.int IntKind.u8 s.snd.c.3, V.int IntKind.u8 s.snd.c.4, V.int IntKind.u8 s.snd.c.5, V.int IntKind.u8 s.snd.c.6, V.int IntKind.u8 s.snd.c.7, V.int IntKind.u8 s.snd.c.8, V.int IntKind.i64 s.snd.2, V.int IntKind.u8 s.rcv.c.1, V.int IntKind.u8 s.rcv.c.2, V.int IntKind.u8 s.rcv.c.3, V.int IntKind.u8 s.rcv.c.4, V.int IntKind.u8 s.rcv.c.5, V.int IntKind.u8 s.rcv.c.6, V.int IntKind.u8 s.rcv.c.7, V.int IntKind.u8 s.rcv.c.8, V.int IntKind.i64 s.rcv.2, V.int IntKind.i64 now, V.int IntKind.i64 0, V.int IntKind.i64 1]] }))))) (Tree.ite (Prt.eqB (ovP srt [(p0, e0), (p1, e1), (p2, e2), (p3, e3), (p4, e4)] win now) p3) (Tree.ite (Prt.eqB s.snd p0) Tree.fail (Tree.ite (Prt.eqB s.snd p1) Tree.fail (Tree.ite (Prt.eqB s.snd p2) Tree.fail (Tree.ite (Prt.eqB s.snd p4) Tree.fail (Tree.leaf { v := V.int IntKind.i64 3, upd := [none, some (some (Body.kv [p0.v, p1.v, p2.v, p4.v, s.snd.v] [V.ptr 2 0 0 0, V.ptr 3 0 0 0, V.ptr 4 0 0 0, V.ptr 6 0 0 0, V.ptr 7 0 0 0])), none, none, none, none, none], new := [Body.cells [V.int IntKind.i64 s.1, V.int IntKind.i64 s.2, V.int IntKind.i64 s.q.1, V.int IntKind.i64 s.q.2, V.int IntKind.i64 s.q.3, V.int IntKind.u8 s.g.1, V.int IntKind.u8 s.g.2, V.int IntKind.u8 s.g.3, V.int IntKind.u8 s.g.4, V.int IntKind.u8 s.g.5, V.int IntKind.u8 s.g.6, V.int IntKind.u8 s.g.7, V.int IntKind.u8 s.g.8, V.int IntKind.i64 s.5, V.int IntKind.u8 s.snd.c.1, V.int IntKind.u8 s.snd.c.2, V.int IntKind.u8 s.snd.c.3, V.int IntKind.u8 s.snd.c.4, V.int IntKind.u8 s.snd.c.5, V.int IntKind.u8 s.snd.c.6, V.int IntKind.u8 s.snd.c.7, V.int IntKind.u8 s.snd.c.8, V.int IntKind.i64 s.snd.2, V.int IntKind.u8 s.rcv.c.1, V.int IntKind.u8 s.rcv.c.2, V.int IntKind.u8 s.rcv.c.3, V.int IntKind.u8 s.rcv.c.4, V.int IntKind.u8 s.rcv.c.5, V.int IntKind.u8 s.rcv.c.6, V.int IntKind.u8 s.rcv.c.7, V.int IntKind.u8 s.rcv.c.8, V.int IntKind.i64 s.rcv.2, V.int IntKind.i64 now, V.int IntKind.i64 0, V.int IntKind.i64 1]] }))))) (Tree.ite (Prt.eqB (ovP srt [(p0, e0), (p1, e1), (p2, e2), (p3, e3), (p4, e4)] win now) p4) (Tree.ite (Prt.eqB s.snd p0) Tree.fail (Tree.ite (Prt.eqB s.snd p1) Tree.fail (Tree.ite (Prt.eqB s.snd p2) Tree.fail (Tree.ite (Prt.eqB s.snd p3) Tree.fail (Tree.leaf { v := V.int IntKind.i64 3, upd := [none, some (some (Body.kv [p0.v, p1.v, p2.v, p3.v, s.snd.v] [V.ptr 2 0 0 0, V.ptr 3 0 0 0, V.ptr 4 0 0 0, V.ptr 5 0 0 0, V.ptr 7 0 0 0])), none, none, none, none, none], new := [Body.cells [V.int IntKind.i64 s.1, V.int IntKind.i64 s.2, V.int IntKind.i64 s.q.1, V.int IntKind.i64 s.q.2, V.int IntKind.i64 s.q.3, V.int IntKind.u8 s.g.1, V.int IntKind.u8 s.g.2, V.int IntKind.u8 s.g.3, V.int IntKind.u8 s.g.4, V.int IntKind.u8 s.g.5, V.int IntKind.u8 s.g.6, V.int IntKind.u8 s.g.7, V.int IntKind.u8 s.g.8, V.int IntKind.i64 s.5, V.int IntKind.u8 s.snd.c.1, V.int IntKind.u8 s.snd.c.2, V.int IntKind.u8 s.snd.c.3, V.int IntKind.u8 s.snd.c.4, V.int IntKind.u8 s.snd.c.5, V.int IntKind.u8 s.snd.c.6, V.int IntKind.u8 s.snd.c.7, V.int IntKind.u8 s.snd.c.8, V.int IntKind.i64 s.snd.2, V.int IntKind.u8 s.rcv.c.1, V.int IntKind.u8 s.rcv.c.2, V.int IntKind.u8 s.rcv.c.3, V.int IntKind.u8 s.rcv.c.4, V.int IntKind.u8 s.rcv.c.5, V.int IntKind.u8 s.rcv.c.6, V.int IntKind.u8 s.rcv.c.7, V.int IntKind.u8 s.rcv.c.8, V.int IntKind.i64 s.rcv.2, V.int IntKind.i64 now, V.int IntKind.i64 0, V.int IntKind.i64 1]] }))))) (Tree.ite (Prt.eqB s.snd p0) Tree.fail (Tree.ite (Prt.eqB s.snd p1) Tree.fail (Tree.ite (Prt.eqB s.snd p2) Tree.fail (Tree.ite (Prt.eqB s.snd p3) Tree.fail (Tree.ite (Prt.eqB s.snd p4) Tree.fail (Tree.leaf { v := V.int IntKind.i64 3, upd := [none, some (some (Body.kv [p0.v, p1.v, p2.v, p3.v, p4.v, s.snd.v] [V.ptr 2 0 0 0, V.ptr 3 0 0 0, V.ptr 4 0 0 0, V.ptr 5 0 0 0, V.ptr 6 0 0 0, V.ptr 7 0 0 0])), none, none, none, none, none], new := [Body.cells [V.int IntKind.i64 s.1, V.int IntKind.i64 s.2, V.int IntKind.i64 s.q.1, V.int IntKind.i64 s.q.2, V.int IntKind.i64 s.q.3, V.int IntKind.u8 s.g.1, V.int IntKind.u8 s.g.2, V.int IntKind.u8 s.g.3, V.int IntKind.u8 s.g.4, V.int IntKind.u8 s.g.5, V.int IntKind.u8 s.g.6, V.int IntKind.u8 s.g.7, V.int IntKind.u8 s.g.8, V.int IntKind.i64 s.5, V.int IntKind.u8 s.snd.c.1, V.int IntKind.u8 s.snd.c.2, V.int IntKind.u8 s.snd.c.3, V.int IntKind.u8 s.snd.c.4, V.int IntKind.u8 s.snd.c.5, V.int IntKind.u8 s.snd.c.6, V.int IntKind.u8 s.snd.c.7, V.int IntKind.u8 s.snd.c.8, V.int IntKind.i64 s.snd.2, V.int IntKind.u8 s.rcv.c.1, V.int IntKind.u8 s.rcv.c.2, V.int IntKind.u8 s.rcv.c.3, V.int IntKind.u8 s.rcv.c.4, V.int IntKind.u8 s.rcv.c.5, V.int IntKind.u8 s.rcv.c.6, V.int IntKind.u8 s.rcv.c.7, V.int IntKind.u8 s.rcv.c.8, V.int IntKind.i64 s.rcv.2, V.int IntKind.i64 now, V.int IntKind.i64 0, V.int IntKind.i64 1]] })))))))))))))))))))))) from by kernel_rfl]
  simp only [heR, chainE, badB, List.getD_cons_zero, List.getD_cons_succ]
  cases s.snd.eqB p0
  · cases s.snd.eqB p1
    · cases s.snd.eqB p2
      · cases s.snd.eqB p3
        · cases s.snd.eqB p4
          · cases decide (now < 0)
            · cases decide (now > 4611686018427387904)
              · cases s.snd.c.eqB own
                · cases decide (s.st < 0)
                  · cases decide (s.st ≥ 255)
                    · cases ovB srt [(p0, e0), (p1, e1), (p2, e2), (p3, e3), (p4, e4)] win now
                      · exact le_of (by kernel_rfl)
                      · cases (ovP srt [(p0, e0), (p1, e1), (p2, e2), (p3, e3), (p4, e4)] win now).eqB p0
                        · cases (ovP srt [(p0, e0), (p1, e1), (p2, e2), (p3, e3), (p4, e4)] win now).eqB p1
                          · cases (ovP srt [(p0, e0), (p1, e1), (p2, e2), (p3, e3), (p4, e4)] win now).eqB p2
                            · cases (ovP srt [(p0, e0), (p1, e1), (p2, e2), (p3, e3), (p4, e4)] win now).eqB p3
                              · cases (ovP srt [(p0, e0), (p1, e1), (p2, e2), (p3, e3), (p4, e4)] win now).eqB p4
                                · exact le_none (by kernel_rfl)
                                · exact le_of (by kernel_rfl)
                              · exact le_of (by kernel_rfl)
                            · exact le_of (by kernel_rfl)
                          · exact le_of (by kernel_rfl)
                        · exact le_of (by kernel_rfl)
                    · exact le_of (by kernel_rfl)
                  · exact le_of (by kernel_rfl)
                · exact le_of (by kernel_rfl)
              · exact le_of (by kernel_rfl)
            · exact le_of (by kernel_rfl)
          · cases decide (now < 0)
            · cases decide (now > 4611686018427387904)
              · cases s.snd.c.eqB own
                · cases decide (s.st < 0)
                  · cases decide (s.st ≥ 255)
                    · cases decide (e4.t0 > now)
                      · exact le_of (by kernel_rfl)
                      · exact le_of (by kernel_rfl)
                    · exact le_of (by kernel_rfl)
                  · exact le_of (by kernel_rfl)
                · exact le_of (by kernel_rfl)
              · exact le_of (by kernel_rfl)
            · exact le_of (by kernel_rfl)
        · cases decide (now < 0)
          · cases decide (now > 4611686018427387904)
            · cases s.snd.c.eqB own
              · cases decide (s.st < 0)
                · cases decide (s.st ≥ 255)
                  · cases decide (e3.t0 > now)
                    · exact le_of (by kernel_rfl)
                    · exact le_of (by kernel_rfl)
                  · exact le_of (by kernel_rfl)
                · exact le_of (by kernel_rfl)
              · exact le_of (by kernel_rfl)
            · exact le_of (by kernel_rfl)
          · exact le_of (by kernel_rfl)
      · cases decide (now < 0)
        · cases decide (now > 4611686018427387904)
          · cases s.snd.c.eqB own
            · cases decide (s.st < 0)
              · cases decide (s.st ≥ 255)
                · cases decide (e2.t0 > now)
                  · exact le_of (by kernel_rfl)
                  · exact le_of (by kernel_rfl)
                · exact le_of (by kernel_rfl)
              · exact le_of (by kernel_rfl)
            · exact le_of (by kernel_rfl)
          · exact le_of (by kernel_rfl)
        · exact le_of (by kernel_rfl)
    · cases decide (now < 0)
      · cases decide (now > 4611686018427387904)
        · cases s.snd.c.eqB own
          · cases decide (s.st < 0)
            · cases decide (s.st ≥ 255)
              · cases decide (e1.t0 > now)
                · exact le_of (by kernel_rfl)
                · exact le_of (by kernel_rfl)
              · exact le_of (by kernel_rfl)
            · exact le_of (by kernel_rfl)
          · exact le_of (by kernel_rfl)
        · exact le_of (by kernel_rfl)
      · exact le_of (by kernel_rfl)
  · cases decide (now < 0)
    · cases decide (now > 4611686018427387904)
      · cases s.snd.c.eqB own
        · cases decide (s.st < 0)
          · cases decide (s.st ≥ 255)
            · cases decide (e0.t0 > now)
              · exact le_of (by kernel_rfl)
              · exact le_of (by kernel_rfl)
            · exact le_of (by kernel_rfl)
          · exact le_of (by kernel_rfl)
        · exact le_of (by kernel_rfl)
      · exact le_of (by kernel_rfl)
    · exact le_of (by kernel_rfl)
theorem he_ok {srt : List Prt → List Prt} (hov : SpecOK P 23 (ovS srt)) : SpecOK P 11 (heS srt) := by
  refine specOK_fast (heG_ok hov) hm (Λ := loopsOf []) Try.func11 (by kernel_rfl) (LoopsOK.nil (by kernel_rfl)) ?_
  intro args bs r h
  unfold heS at h
  split at h
  · rename_i q now own win es hb
    split at h
    · rename_i s hq
      have hb := tabP_eq hb
      subst hb
      have hq := Ste.of_eq hq
      subst hq
      rw [den_lit] at h
      obtain ⟨hn, h⟩ := h
      have h := denN_of h
      rcases es with _ | ⟨⟨p0, e0⟩, _ | ⟨⟨p1, e1⟩, _ | ⟨⟨p2, e2⟩, _ | ⟨⟨p3, e3⟩, _ | ⟨⟨p4, e4⟩, _ | ⟨⟨p5, e5⟩, es⟩⟩⟩⟩⟩⟩
      · exact he_0 srt own win now s  _ h
      · exact he_1 srt own win now s p0 e0 _ h
      · exact he_2 srt own win now s p0 e0 p1 e1 _ h
      · exact he_3 srt own win now s p0 e0 p1 e1 p2 e2 _ h
      · exact he_4 srt own win now s p0 e0 p1 e1 p2 e2 p3 e3 _ h
      · exact he_5 srt own win now s p0 e0 p1 e1 p2 e2 p3 e3 p4 e4 _ h
      · exact absurd hn (by simp)
    · simp [den_fail] at h
  · simp [den_fail] at h
end Go.Proofs.Ytgdalboilghciaa
