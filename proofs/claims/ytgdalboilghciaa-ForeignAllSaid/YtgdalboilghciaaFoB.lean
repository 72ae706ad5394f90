/- Layer 8: the ports of a map, sorted; who is in a table. The conditions stand in the specifications. -/
import Derived.Shelf.SlIterI.Sorted
import Derived.Maps.RangeRun
import Derived.Test.YtgdalboilghciaaRxC
import Derived.KernelRfl
import Derived.Test.YtgdalboilghciaaChecked
import Derived.Test.YtgdalboilghciaaFoA
set_option linter.unusedSimpArgs false
set_option linter.unusedVariables false
set_option linter.unnecessarySimpa false
set_option linter.unusedSectionVars false
set_option maxRecDepth 100000
set_option linter.unusedSimpArgs false
set_option linter.unusedVariables false
namespace Go.Proofs
open Go.RowKit Go.Maps Go.Sort Go.Shelf
open Go.ChangeMaps (setBlock)
namespace Ytgdalboilghciaa
section
variable {F : Fence} {n : Nat} {P : Program} {ops : Array Oper} {rest : List Oper} {o : Oper} {a : Act} {Q : Exit → Act → World → Prop}
theorem range_map (w : World) (hg : o.guard = none) (m : Operand) (t k e : TypeId) (hop : o.op = Op.range t m) (ht : P.underlying t = some (.map k e)) (b : Nat) (es : Array MapEntry) (clock : Nat) (hm : a.eval m = .map (some b))
    (hb : w.heap[b]? = some (.map es clock))
    (hK : wpListIn F n P ops Q rest (a.put o.dst (.pointer (some ⟨w.heap.size, 0, none⟩))) (w.alloc (.mapIter (some b) clock #[] clock))) :
    wpListIn F n P ops Q (o :: rest) a w := by
  refine wpListIn_plain hg fun K' hK' => ?_
  have hrun : (Instr.range t (.map (some b))).run P w = .ok (.pointer (some ⟨w.heap.size, 0, none⟩)) (w.alloc (.mapIter (some b) clock #[] clock)) := by
    have hgo : (getObj b).run P w = .ok (.map es clock) w := by simp [getObj, Sem.run, hb]
    simp [Instr.range, run_underlying ht, hgo]
  unfold Oper.wpIn
  refine ⟨by simp [Oper.about, hop], ?_⟩
  rw [Oper.semAt_plain F _ _ (by rw [hop]; intro c hc'; cases hc')]
  simp [execOp, hop, hm, hrun, Result.andThen]
  exact hK' _ _ hK
theorem next_map (w : World) (hg : o.guard = none) (it : Operand) (hop : o.op = Op.next it false) (r b clock : Nat) (seen : Array Nat) (es : Array MapEntry)
    (hit : a.eval it = .pointer (some ⟨r, 0, none⟩)) (hr : w.heap[r]? = some (.mapIter (some b) clock seen clock)) (hb : w.heap[b]? = some (.map es clock)) (hold : ∀ x ∈ es.toList, x.born < clock)
    (hDone : (leftOf es seen).size = 0 → wpListIn F n P ops Q rest (a.put o.dst (.tuple #[.bool false])) w)
    (hMore : ∀ (e : MapEntry) (w2 : World), e ∈ (leftOf es seen).toList → w.grownBy w2 (some r) → w2.heap.size = w.heap.size → w2.heap[r]? = some (.mapIter (some b) clock (seen.push e.born) clock) →
      wpListIn F n P ops Q rest (a.put o.dst (.tuple #[.bool true, e.key, e.val])) w2) :
    wpListIn F n P ops Q (o :: rest) a w := by
  refine wpListIn_plain hg fun K' hK' => ?_
  unfold Oper.wpIn
  refine ⟨by simp [Oper.about, hop], ?_⟩
  rw [Oper.semAt_plain F _ _ (by rw [hop]; intro c hc'; cases hc')]
  rcases run_next_at (P := P) w o.type r b clock clock seen es clock hr hb hold (Nat.le_refl _) with ⟨h0, hrun⟩ | ⟨e, he, w1, hw1, hrun⟩
  · simp [execOp, hop, hit, hrun, Result.andThen]
    exact hK' _ _ (hDone h0)
  · simp [execOp, hop, hit, hrun, Result.andThen]
    have hrl : r < w1.heap.size := by rcases hw1 with rfl | rfl <;> exact (Array.getElem?_eq_some_iff.1 hr).1
    have hw : w1.os = w.os ∧ w1.tape = w.tape ∧ w1.output = w.output ∧ w1.heap = w.heap := by rcases hw1 with rfl | rfl <;> exact ⟨rfl, rfl, rfl, rfl⟩
    refine hK' _ _ (hMore e _ he ⟨hw.1, hw.2.1, hw.2.2.1, ?_, fun k hk hne => ?_⟩ ?_ ?_)
    · simp [setBlock, hw.2.2.2]
    · have hne : k ≠ r := fun e => hne (by rw [e])
      simp [setBlock, hw.2.2.2, Array.getElem?_setIfInBounds_ne (Ne.symm hne)]
    · simp [setBlock, hw.2.2.2]
    · simp [setBlock, hrl]
end
/-- How many entries are still to come. -/
def leftN (es : Array MapEntry) (r : Nat) (w : World) : Nat := match w.heap[r]? with
  | some (.mapIter _ _ seen _) => (leftOf es seen).size
  | _ => 0
theorem leftN_at {es : Array MapEntry} {r : Nat} {w : World} {m : Option Nat} {s c : Nat} {seen : Array Nat} (h : w.heap[r]? = some (.mapIter m s seen c)) : leftN es r w = (leftOf es seen).size := by unfold leftN; rw [h]
/-- A port, as a value. -/
def pv (p : Go.Rx.Prt) : Value := .agg #[.int .u8 p.c.b0, .int .u8 p.c.b1, .int .u8 p.c.b2, .int .u8 p.c.b3, .int .u8 p.c.b4, .int .u8 p.c.b5, .int .u8 p.c.b6, .int .u8 p.c.b7, .int .i64 p.n]
theorem leftOf_none (es : Array MapEntry) : leftOf es #[] = es := by
  unfold leftOf
  exact Array.filter_eq_self.2 (by simp)
/-- One comes out. -/
theorem leftOf_push (es : Array MapEntry) (seen : Array Nat) (e : MapEntry) (he : e ∈ (leftOf es seen).toList) (hnd : (es.toList.map (·.born)).Nodup) :
    (e.key :: ((leftOf es (seen.push e.born)).toList.map (·.key))).Perm ((leftOf es seen).toList.map (·.key)) ∧ (leftOf es (seen.push e.born)).size < (leftOf es seen).size ∧ e ∈ es.toList := by
  have hl : (leftOf es (seen.push e.born)).toList = (leftOf es seen).toList.filter fun x => x.born != e.born := by
    unfold leftOf
    simp only [Array.toList_filter, List.filter_filter]
    apply List.filter_congr
    intro x hx
    have : (seen.push e.born).contains x.born = (seen.contains x.born || (x.born == e.born)) := by
      rw [Array.contains_push]
    rw [this]
    cases seen.contains x.born <;> simp [bne]
  have hsub : (leftOf es seen).toList.Sublist es.toList := by
    unfold leftOf
    simp only [Array.toList_filter]
    exact List.filter_sublist
  have hnd2 : ((leftOf es seen).toList.map (·.born)).Nodup := hnd.sublist (hsub.map _)
  have key : ∀ (l : List MapEntry), e ∈ l → (l.map (·.born)).Nodup → (e :: l.filter fun x => x.born != e.born).Perm l := by
    intro l
    induction l with
    | nil => intro h; cases h
    | cons x l ih =>
      intro h hn
      simp only [List.map_cons, List.nodup_cons] at hn
      rcases List.mem_cons.1 h with rfl | h
      · have : (e :: l).filter (fun x => x.born != e.born) = l := by
          simp only [List.filter_cons, bne_self_eq_false, Bool.false_eq_true, if_false]
          refine List.filter_eq_self.2 fun y hy => ?_
          simp only [bne_iff_ne, ne_eq]
          intro e'
          exact hn.1 (e' ▸ List.mem_map_of_mem hy)
        rw [this]
      · have hne : x.born ≠ e.born := fun e' => hn.1 (e' ▸ List.mem_map_of_mem h)
        simp only [List.filter_cons, bne_iff_ne, ne_eq, hne, not_false_eq_true, if_true]
        exact (List.Perm.swap _ _ _).trans ((ih h hn.2).cons _)
  have hp := key _ he hnd2
  refine ⟨?_, ?_, hsub.mem he⟩
  · rw [hl]; exact hp.map (·.key)
  · have h1 := hp.length_eq
    rw [← hl] at h1
    simp only [List.length_cons, Array.length_toList] at h1
    omega
set_option maxHeartbeats 2000000 in
theorem keys_it (l Bm off b n : Nat) (hn : 1 ≤ n) (es : Array MapEntry) (clock : Nat) (J : List Go.Rx.Prt → World → Prop) (W : World) (hJ : AbidesFrom W.heap.size J)
    (hm : W.cell? ⟨Bm, off, none⟩ = some (.map (some b))) (hb : W.heap[b]? = some (.map es clock)) (hold : ∀ x ∈ es.toList, x.born < clock) (hnd : (es.toList.map (·.born)).Nodup)
    (hkey : ∀ e ∈ es.toList, ∃ p, e.key = pv p)
    (hY : ∀ pre x W1, J pre W1 → pre.length < es.size → YieldAt Fence.wide (n - 1) Try.prog l #[pv x] W1 fun e W' => e = .returned (.bool true) ∧ J (pre ++ [x]) W' ∧ KeepsWalks W1 W') (h0 : J [] W) :
    CallsIn Fence.wide n Try.prog 40 #[.func (.yield l) #[] #[], .pointer (some ⟨Bm, off, none⟩)] W fun e W' => (∃ v, e = .returned v) ∧ ∃ ss : List Go.Rx.Prt, (ss.map pv).Perm (es.toList.map (·.key)) ∧ J ss W' := by
  have hbl : b < W.heap.size := (Array.getElem?_eq_some_iff.1 hb).1
  refine callsIn_of_wp Try.func40 rfl trivial ?_ rfl
  simp only [Try.ntmps40, List.size_toArray, List.length_cons, List.length_nil, Nat.reduceAdd, Nat.reduceSub, Array.replicate_succ, Array.replicate_zero, List.push_toArray, List.append_toArray, List.nil_append, List.cons_append]
  gi_wp2_with (first
    | (gi_at_range; refine range_map _ rfl _ _ _ _ rfl Try.underlying61 b es clock rfl hb ?_)
    | gi_in)
  go_frame
  gi_loopw [3] (fun _ wr => ∃ (seen : Array Nat) (ss : List Go.Rx.Prt), wr.heap[W.heap.size]? = some (.mapIter (some b) clock seen clock) ∧ wr.heap[b]? = some (.map es clock) ∧ W.heap.size + 1 ≤ wr.heap.size ∧ (ss.map pv ++ (leftOf es seen).toList.map (·.key)).Perm (es.toList.map (·.key)) ∧ J ss wr)
    (fun _ wr => leftN es W.heap.size wr)
  case atStart =>
    refine ⟨#[], [], World.alloc_heap_new W _, (Below.heap_alloc _ _ b hbl).trans hb, by simp, by rw [leftOf_none]; exact List.Perm.refl _, ?_⟩
    refine hJ [] W _ none h0 ⟨rfl, rfl, rfl, by simp, fun k hk _ => Below.heap_alloc _ _ k hk⟩ (fun r e => by cases e)
  case round =>
    obtain ⟨seen, ss, hr, hbm, hsz, hP, hJs⟩ := hrel
    gi_wp2_with (first
      | (gi_at_next; refine next_map _ rfl _ rfl W.heap.size b clock seen es rfl hr hbm hold ?_ ?_)
      | gi_in)
    · intro hl0
      gi_wp2
      go_end0
      have hl : (leftOf es seen).toList = [] := List.eq_nil_of_length_eq_zero (by simpa using hl0)
      rw [hl] at hP
      exact ⟨⟨_, rfl⟩, ss, by simpa using hP, hJs⟩
    · intro e w2 he hg2 hs2 hr2
      have he' : e ∈ (leftOf es seen).toList := by simpa using he
      obtain ⟨hp, hlt, hmem⟩ := leftOf_push es seen e he' hnd
      obtain ⟨p, hpk⟩ := hkey e hmem
      have hbne : some b ≠ some W.heap.size := fun e => by cases e; omega
      have hb2 : w2.heap[b]? = some (.map es clock) := (hg2.block b (by omega) hbne).trans hbm
      have hen := run_entry_at (P := Try.prog) w2 W.heap.size b clock seen es clock e hr2 hb2 hmem hnd
      rw [hpk] at hen ⊢
      unfold pv at hen ⊢
      have h3 : ∀ o : Obj, (w2.alloc o).heap[W.heap.size]? = w2.heap[W.heap.size]? := fun o => Below.heap_alloc _ _ _ (by omega)
      have h4 : ∀ o : Obj, (w2.alloc o).heap[b]? = w2.heap[b]? := fun o => Below.heap_alloc _ _ _ (by omega)
      have hlen : ss.length < es.size := by
        have := hP.length_eq
        simp at this
        have h5 : 0 < (leftOf es seen).size := by omega
        omega
      have hJ2 : ∀ o : Obj, J ss (w2.alloc o) := fun o => hJ ss wr (w2.alloc o) (some W.heap.size) hJs
        ⟨hg2.os, hg2.tape, hg2.output, by simp; omega, fun k hk hne => (Below.heap_alloc _ _ k (by omega)).trans (hg2.block k hk hne)⟩
        (fun r e => by cases e; exact ⟨Nat.le_refl _, _, hr, rfl⟩)
      have hY2 := fun o : Obj => hY ss p (w2.alloc o) (hJ2 o) hlen
      unfold pv at hY2
      obtain ⟨fn, tmps, assign, body, hy, hR⟩ := hY2 (.cells #[.int .u8 p.c.b0, .int .u8 p.c.b1, .int .u8 p.c.b2, .int .u8 p.c.b3, .int .u8 p.c.b4, .int .u8 p.c.b5, .int .u8 p.c.b6, .int .u8 p.c.b7, .int .i64 p.n] 29)
      gi_wp2
      refine hR.mono ?_
      rintro e1 W3 ⟨rfl, hJ3, hk3⟩
      gi_wp2
      go_roundw
      case rel =>
        refine ⟨seen.push e.born, ss ++ [p], hk3.same _ _ ((h3 _).trans hr2) rfl, hk3.same _ _ ((h4 _).trans hb2) rfl, ?_, ?_, hJ3⟩
        · have := hk3.size; simp at this; omega
        · refine List.Perm.trans ?_ hP
          rw [List.map_append, List.append_assoc]
          refine List.Perm.append_left _ ?_
          refine List.Perm.trans ?_ hp
          rw [hpk]
          exact List.Perm.refl _
      case measure =>
        rw [leftN_at (hk3.same _ _ ((h3 _).trans hr2) rfl), leftN_at hr]
        exact hlt
end Ytgdalboilghciaa
end Go.Proofs

set_option maxRecDepth 100000
set_option linter.unusedSimpArgs false
set_option linter.unusedVariables false
namespace Go.Proofs
open Go.RowKit Go.Maps Go.Sort Go.Shelf
namespace Ytgdalboilghciaa
def zeroPort : Value := .agg #[.int .u8 0, .int .u8 0, .int .u8 0, .int .u8 0, .int .u8 0, .int .u8 0, .int .u8 0, .int .u8 0, .int .i64 0]
theorem info29 : (Try.prog.info? 29).map (fun i => (i.zero, i.size, i.bytes)) = some (some zeroPort, 9, 16) := by kernel_rfl
/-- A port's cells. -/
def pcs (p : Go.Rx.Prt) : List Value := [.int .u8 p.c.b0, .int .u8 p.c.b1, .int .u8 p.c.b2, .int .u8 p.c.b3, .int .u8 p.c.b4, .int .u8 p.c.b5, .int .u8 p.c.b6, .int .u8 p.c.b7, .int .i64 p.n]
theorem pcs_length (l : List Go.Rx.Prt) : (l.flatMap pcs).length = l.length * 9 := by
  induction l with
  | nil => rfl
  | cons p l ih => simp only [List.flatMap_cons, List.length_append, ih, List.length_cons]; simp [pcs]; omega
theorem keys_gives (n : Nat) (hn : 1 ≤ n) (Bm off b : Nat) (es : Array MapEntry) (clock : Nat) (w : World) (hBm : Bm < w.heap.size)
    (hm : w.cell? ⟨Bm, off, none⟩ = some (.map (some b))) (hb : w.heap[b]? = some (.map es clock)) (hold : ∀ x ∈ es.toList, x.born < clock) (hnd : (es.toList.map (·.born)).Nodup)
    (hkey : ∀ e ∈ es.toList, ∃ p, e.key = pv p) :
    SeqGives Fence.wide n Try.prog 40 #[.pointer (some ⟨Bm, off, none⟩)] pv (fun ss => (ss.map pv).Perm (es.toList.map (·.key))) es.size w := fun l J W hW hJ hY h0 =>
  keys_it l Bm off b n hn es clock J W hJ ((hW.cell (p := ⟨Bm, off, none⟩) hBm).trans hm) ((hW.block b (Array.getElem?_eq_some_iff.1 hb).1).trans hb) hold hnd hkey hY h0
def apAssign : Code := (Code.region 2 #[{ dst := some 5, op := Op.alloc 29, type := 0, pos := "iter.go:51", after := #[], guard := none }, { dst := none, op := Op.store 29 (Operand.tmp 5) (Operand.tmp 7), type := 0, pos := "iter.go:51", after := #[{ on := 0, ground := Ground.data }, { on := 0, ground := Ground.phase }], guard := none }] false)
def apBody : Code := (Code.block 1 (Code.region 3 #[{ dst := some 8, op := Op.load 72 (Operand.tmp 2), type := 72, pos := "iter.go:52", after := #[], guard := none }, { dst := some 9, op := Op.load 29 (Operand.tmp 5), type := 29, pos := "iter.go:52", after := #[], guard := none }, { dst := some 10, op := Op.buildSlice 72 1 #[(0, Operand.tmp 9)], type := 72, pos := "iter.go:52", after := #[{ on := 1, ground := Ground.data }], guard := none }, { dst := some 11, op := Op.call { callee := Callee.builtin Builtin.append, args := #[Operand.tmp 8, Operand.tmp 10], argTypes := #[72, 72] }, type := 72, pos := "iter.go:52", after := #[{ on := 0, ground := Ground.data }, { on := 2, ground := Ground.data }], guard := none }, { dst := none, op := Op.store 72 (Operand.tmp 2) (Operand.tmp 11), type := 0, pos := "iter.go:52", after := #[{ on := 3, ground := Ground.data }, { on := 3, ground := Ground.chain }, { on := 0, ground := Ground.phase }, { on := 1, ground := Ground.phase }, { on := 2, ground := Ground.phase }, { on := 3, ground := Ground.phase }], guard := none }] false))
/-- The loop's record: AppendSeq's temporaries as they stood at the entering. -/
def apRec (fn : FuncId) (sv : Value) (Bs D : Nat) (st : LoopState) (pend : Option Code) : Loop :=
  { state := st, pending := pend, fn, tmps := #[.slice none 0 0, sv, .pointer (some ⟨Bs, 0, none⟩), undef, .slice none 0 0, undef, sv, undef, undef, undef, undef, undef, undef], params := #[7], assign := apAssign, body := apBody, defers := D }
/-- Between two rounds. -/
structure ApAt (w0 : World) (fn : FuncId) (sv : Value) (Bs l D : Nat) (ss : List Go.Rx.Prt) (W : World) : Prop where
  box : ∃ v, W.heap[Bs]? = some (.cells #[v] 72 (0, 0)) ∧ W.ownsRow w0.heap.size 29 9 v ss.length (ss.flatMap pcs) ∧ (v = .slice none 0 0 ↔ ss = [])
  L : W.heap[l]? = some (.loop (apRec fn sv Bs D .ready none))
  K : W.heap[D]? = some (.deferred (some []))
  below : Below w0.heap.size w0 W
theorem ap_abides (w0 : World) (fn : FuncId) (sv : Value) (Bs l D B : Nat) (hB : w0.heap.size ≤ B) : AbidesFrom B (ApAt w0 fn sv Bs l D) := fun s W W' row h hg hrow => by
  have hrow' : ∀ r, row = some r → ∃ o : Obj, W.heap[r]? = some o ∧ o.isWalk = true := fun r e => (hrow r e).2
  obtain ⟨v, hv, hr, hn⟩ := h.box
  exact ⟨⟨v, (grownBy_keeps hg hrow' hv rfl).trans hv, ownsRow_abides_a hr hg hrow', hn⟩, (grownBy_keeps hg hrow' h.L rfl).trans h.L, (grownBy_keeps hg hrow' h.K rfl).trans h.K,
    h.below.grown hg h.below.size (fun k e => Nat.le_trans hB (hrow k e).1)⟩
theorem u72 : Try.prog.underlying 72 = some (.slice 29) := by kernel_rfl
theorem cells_new (w : World) (cs : Array Value) (t : TypeId) (j : Nat) (u : Value) (h : cs.toList[j]? = some u) : (w.alloc (.cells cs t)).cell? ((⟨w.heap.size, 0, none⟩ : Addr).add j) = some u := by
  have h0 : (w.alloc (.cells cs t)).heap[w.heap.size]? = some (.cells cs t) := World.alloc_heap_new w _
  have h' : cs[j]? = some u := by simpa using h
  unfold World.cell? Addr.add
  rcases j with _ | j <;> simp_all
set_option maxHeartbeats 4000000 in
theorem apYield (m : Nat) (w0 : World) (fn : FuncId) (sv : Value) (Bs l D : Nat) (hBl : Bs ≠ l) (hDl : D ≠ l) (hDB : D ≠ Bs) (h0B : w0.heap.size ≤ Bs) (h0l : w0.heap.size ≤ l)
    (N : Nat) (hN : N ≤ maxLen) (hNb : N * 16 ≤ 140737488355328) (ss : List Go.Rx.Prt) (x : Go.Rx.Prt) (W : World) (h : ApAt w0 fn sv Bs l D ss W) (hlen : ss.length < N) :
    YieldAt Fence.wide m Try.prog l #[pv x] W fun e W' => e = .returned (.bool true) ∧ ApAt w0 fn sv Bs l D (ss ++ [x]) W' ∧ KeepsWalks W W' := by
  obtain ⟨i0, hi, hz0, hz1, hz2⟩ := info_parts info29
  obtain ⟨v, hv, hrow, _⟩ := h.box
  refine ⟨fn, #[.slice none 0 0, sv, .pointer (some ⟨Bs, 0, none⟩), undef, .slice none 0 0, undef, sv, pv x, undef, undef, undef, undef, undef], apAssign, apBody, by simpa [apRec] using run_yield (P := Try.prog) (args := #[pv x]) h.L rfl, roundIn_of_wpIn trivial ?_⟩
  have hl : l < W.heap.size := (Array.getElem?_eq_some_iff.1 h.L).1
  have hBl0 : Bs < W.heap.size := (Array.getElem?_eq_some_iff.1 hv).1
  have hDl0 : D < W.heap.size := (Array.getElem?_eq_some_iff.1 h.K).1
  unfold apAssign pv
  gi_wp2_with gi_round_op_a
  obtain ⟨W1, hW1⟩ : ∃ W1, W.alloc (Obj.cells #[Value.int IntKind.u8 x.c.b0, Value.int IntKind.u8 x.c.b1, Value.int IntKind.u8 x.c.b2, Value.int IntKind.u8 x.c.b3, Value.int IntKind.u8 x.c.b4, Value.int IntKind.u8 x.c.b5, Value.int IntKind.u8 x.c.b6, Value.int IntKind.u8 x.c.b7, Value.int IntKind.i64 x.n] 29) = W1 := ⟨_, rfl⟩
  rw [hW1]
  have hp1 : W1.heap[W.heap.size]? = some (Obj.cells #[Value.int IntKind.u8 x.c.b0, Value.int IntKind.u8 x.c.b1, Value.int IntKind.u8 x.c.b2, Value.int IntKind.u8 x.c.b3, Value.int IntKind.u8 x.c.b4, Value.int IntKind.u8 x.c.b5, Value.int IntKind.u8 x.c.b6, Value.int IntKind.u8 x.c.b7, Value.int IntKind.i64 x.n] 29) := by rw [← hW1]; exact World.alloc_heap_new W _
  have hv1 : W1.heap[Bs]? = some (.cells #[v] 72 (0, 0)) := by rw [← hW1]; exact (Below.heap_alloc _ _ Bs hBl0).trans hv
  have hK1 : W1.heap[D]? = some (.deferred (some [])) := by rw [← hW1]; exact (Below.heap_alloc _ _ D hDl0).trans h.K
  have hL1 : W1.heap[l]? = some (.loop (apRec fn sv Bs D .ready none)) := by rw [← hW1]; exact (Below.heap_alloc _ _ l hl).trans h.L
  have hrow1 : W1.ownsRow w0.heap.size 29 9 v ss.length (ss.flatMap pcs) := by rw [← hW1]; exact hrow.alloc _
  have hb1 : Below w0.heap.size w0 W1 := by rw [← hW1]; exact h.below.alloc h.below.size _
  have hk1 : KeepsWalks W W1 := by rw [← hW1]; exact KeepsWalks.alloc _ _
  have hs1 : W1.heap.size = W.heap.size + 1 := by rw [← hW1]; simp
  clear hW1
  have hbr := run_beginRound (P := Try.prog) hL1 rfl
  obtain ⟨W2, hW2⟩ : ∃ W2, W1.putObj l (.loop { apRec fn sv Bs D .ready none with state := .busy }) = W2 := ⟨_, rfl⟩
  rw [hW2] at hbr
  have hg2 : W1.grownBy W2 (some l) := by rw [← hW2]; exact grownBy_putObj_a _ _ _
  have hk2 : KeepsWalks W W2 := hk1.trans (by rw [← hW2]; exact KeepsWalks.putObj _ hL1 rfl)
  have hv2 : W2.heap[Bs]? = some (.cells #[v] 72 (0, 0)) := by rw [← hW2]; exact (World.putObj_heap_other hBl).trans hv1
  have hp2 : W2.heap[W.heap.size]? = some (Obj.cells #[Value.int IntKind.u8 x.c.b0, Value.int IntKind.u8 x.c.b1, Value.int IntKind.u8 x.c.b2, Value.int IntKind.u8 x.c.b3, Value.int IntKind.u8 x.c.b4, Value.int IntKind.u8 x.c.b5, Value.int IntKind.u8 x.c.b6, Value.int IntKind.u8 x.c.b7, Value.int IntKind.i64 x.n] 29) := by rw [← hW2]; exact (World.putObj_heap_other (by omega)).trans hp1
  have hK2 : W2.heap[D]? = some (.deferred (some [])) := by rw [← hW2]; exact (World.putObj_heap_other hDl).trans hK1
  have hL2 : W2.heap[l]? = some (.loop { apRec fn sv Bs D .ready none with state := .busy }) := by rw [← hW2]; exact World.putObj_heap_same (by omega)
  have hrow2 : W2.ownsRow w0.heap.size 29 9 v ss.length (ss.flatMap pcs) := hrow1.kept hg2 (ownsRow_ne_a hrow1 hL1 (fun cur e => by cases e))
  have hb2 : Below w0.heap.size w0 W2 := hb1.grown hg2 hb1.size (fun k e => by cases e; exact h0l)
  obtain ⟨hc2, hf2⟩ := cell_of_box_a hv2
  have hBlt : Bs < W2.heap.size := (Array.getElem?_eq_some_iff.1 hv2).1
  have hl2 : l < W2.heap.size := (Array.getElem?_eq_some_iff.1 hL2).1
  have hDlt : D < W2.heap.size := (Array.getElem?_eq_some_iff.1 hK2).1
  have ne_of : ∀ {j : Nat} {o : Obj}, W2.heap[j]? = some o → (∀ cur, o ≠ .cells cur 29 (0, 0)) → some j ≠ v.ownBlock := fun hj hno => by
    rcases ownsRow_ne_a hrow2 hj hno with e | e
    · rw [e]; simp
    · exact fun e' => e e'.symm
  clear hW2
  have hq0 : W2.cell? ⟨W.heap.size, 0, none⟩ = some (.int .u8 x.c.b0) := by simp [World.cell?, hp2]
  have hq1 : W2.cell? ⟨W.heap.size, 1, none⟩ = some (.int .u8 x.c.b1) := by simp [World.cell?, hp2]
  have hq2 : W2.cell? ⟨W.heap.size, 2, none⟩ = some (.int .u8 x.c.b2) := by simp [World.cell?, hp2]
  have hq3 : W2.cell? ⟨W.heap.size, 3, none⟩ = some (.int .u8 x.c.b3) := by simp [World.cell?, hp2]
  have hq4 : W2.cell? ⟨W.heap.size, 4, none⟩ = some (.int .u8 x.c.b4) := by simp [World.cell?, hp2]
  have hq5 : W2.cell? ⟨W.heap.size, 5, none⟩ = some (.int .u8 x.c.b5) := by simp [World.cell?, hp2]
  have hq6 : W2.cell? ⟨W.heap.size, 6, none⟩ = some (.int .u8 x.c.b6) := by simp [World.cell?, hp2]
  have hq7 : W2.cell? ⟨W.heap.size, 7, none⟩ = some (.int .u8 x.c.b7) := by simp [World.cell?, hp2]
  have hq8 : W2.cell? ⟨W.heap.size, 8, none⟩ = some (.int .i64 x.n) := by simp [World.cell?, hp2]
  refine ⟨W2, hbr, ?_⟩
  unfold apBody
  obtain ⟨W2a, hWa⟩ : ∃ Wa, W2.alloc (Obj.cells #[Value.int IntKind.u8 x.c.b0, Value.int IntKind.u8 x.c.b1, Value.int IntKind.u8 x.c.b2, Value.int IntKind.u8 x.c.b3, Value.int IntKind.u8 x.c.b4, Value.int IntKind.u8 x.c.b5, Value.int IntKind.u8 x.c.b6, Value.int IntKind.u8 x.c.b7, Value.int IntKind.i64 x.n] 29) = Wa := ⟨_, rfl⟩
  have hva : W2a.heap[Bs]? = some (.cells #[v] 72 (0, 0)) := by rw [← hWa]; exact (Below.heap_alloc _ _ Bs hBlt).trans hv2
  have hLa : W2a.heap[l]? = some (.loop { apRec fn sv Bs D .ready none with state := .busy }) := by rw [← hWa]; exact (Below.heap_alloc _ _ l hl2).trans hL2
  have hKa : W2a.heap[D]? = some (.deferred (some [])) := by rw [← hWa]; exact (Below.heap_alloc _ _ D hDlt).trans hK2
  have hba : Below w0.heap.size w0 W2a := by rw [← hWa]; exact hb2.alloc hb2.size _
  have hka : KeepsWalks W W2a := hk2.trans (by rw [← hWa]; exact KeepsWalks.alloc _ _)
  have hrowa : W2a.ownsRow w0.heap.size 29 9 v ss.length (ss.flatMap pcs) := by rw [← hWa]; exact hrow2.alloc _
  have hsa : W2a.heap.size = W2.heap.size + 1 := by rw [← hWa]; simp
  have hca : ∀ (j : Nat) (u : Value), (pcs x)[j]? = some u → W2a.cell? ((⟨W2.heap.size, 0, none⟩ : Addr).add j) = some u := fun j u hu => by
    rw [← hWa]
    exact cells_new W2 #[Value.int IntKind.u8 x.c.b0, Value.int IntKind.u8 x.c.b1, Value.int IntKind.u8 x.c.b2, Value.int IntKind.u8 x.c.b3, Value.int IntKind.u8 x.c.b4, Value.int IntKind.u8 x.c.b5, Value.int IntKind.u8 x.c.b6, Value.int IntKind.u8 x.c.b7, Value.int IntKind.i64 x.n] 29 j u hu
  gi_wp2_with (first
    | (gi_at_builtin; refine wpListIn_append_own _ rfl _ _ 72 rfl w0.heap.size 29 i0 zeroPort 9 16 u72 hi hz0 hz1 hz2 rfl (by decide) _ _ _ rfl hrowa ⟨W2.heap.size, 0, none⟩ 1 1 (pcs x) rfl rfl hca (by simp [pcs, Value.oneCell']) (by omega) (by omega) (by have := hba.size; omega) ?_; intro v' w3 hown' hg3 hnil3
       have hv3 : w3.heap[Bs]? = some (.cells #[v] 72 (0, 0)) := (hg3.block Bs (by omega) (ne_of hv2 (fun cur e => by cases e))).trans hva
       obtain ⟨hc3, hf3⟩ := cell_of_box_a hv3
       obtain ⟨g', cap', cur', rfl, hbase', hgb', hr1, hr2, hr3, hr4⟩ : ∃ g' cap' cur', v' = .slice (some ⟨g', 0, none⟩) (ss.length + 1) cap' ∧ w0.heap.size ≤ g' ∧ w3.heap[g']? = some (.cells cur' 29 (0, 0)) ∧ ss.length + 1 ≤ cap' ∧ cap' ≤ maxLen ∧ cur'.size = cap' * 9 ∧ cur'.toList.take ((ss.length + 1) * 9) = ss.flatMap pcs ++ pcs x := by
         rcases hown'.2 with ⟨_, h0⟩ | h'
         · exact absurd h0 (by omega)
         · exact h'
       go_frame)
    | gi_round_op_a)
  have hL3 : w3.heap[l]? = some (.loop { apRec fn sv Bs D .ready none with state := .busy }) := (hg3.block l (by omega) (ne_of hL2 (fun cur e => by cases e))).trans hLa
  have hK3 : w3.heap[D]? = some (.deferred (some [])) := (hg3.block D (by omega) (ne_of hK2 (fun cur e => by cases e))).trans hKa
  obtain ⟨w4, hw4⟩ : ∃ w4, w3.setCell ⟨Bs, 0, none⟩ (.slice (some ⟨g', 0, none⟩) (ss.length + 1) cap') = w4 := ⟨_, rfl⟩
  rw [hw4]
  have hg4 : w3.grownBy w4 (some Bs) := by rw [← hw4]; exact grownBy_setCell0_a _ _ _
  have hv4 : w4.heap[Bs]? = some (.cells #[.slice (some ⟨g', 0, none⟩) (ss.length + 1) cap'] 72 (0, 0)) := by rw [← hw4]; exact heap_setCell_box_a _ hv3
  have hL4 : w4.heap[l]? = some (.loop { apRec fn sv Bs D .ready none with state := .busy }) := (hg4.block l (Array.getElem?_eq_some_iff.1 hL3).1 (fun e => hBl (by cases e; rfl))).trans hL3
  have hK4 : w4.heap[D]? = some (.deferred (some [])) := (hg4.block D (Array.getElem?_eq_some_iff.1 hK3).1 (fun e => hDB (by cases e; rfl))).trans hK3
  have hrow4 := hown'.kept hg4 (ownsRow_ne_a hown' hv3 (fun cur e => by cases e))
  have hl4 : l < w4.heap.size := (Array.getElem?_eq_some_iff.1 hL4).1
  have hb3 : Below w0.heap.size w0 w3 := hba.grown hg3 (by have := hba.size; omega) (fun k e => (hrow2.lt k e).1)
  have hb4 : Below w0.heap.size w0 w4 := hb3.grown hg4 hb3.size (fun k e => by cases e; exact h0B)
  have hk4 : KeepsWalks W w4 := (hka.trans (KeepsWalks.of_grownBy hg3 (ownsRow_not_walk_a hrowa))).trans (by rw [← hw4]; exact KeepsWalks.setCell _ _ _)
  clear hw4
  refine ⟨_, _, run_endRound none hL4, rfl, ⟨⟨_, (World.putObj_heap_other hBl).trans hv4, ?_, by simp⟩, World.putObj_heap_same hl4, (World.putObj_heap_other hDl).trans hK4, hb4.grown (grownBy_putObj_a _ _ _) hb4.size (fun k e => by cases e; exact h0l)⟩, hk4.trans (KeepsWalks.putObj _ hL4 rfl)⟩
  have := hrow4.kept (grownBy_putObj_a w4 l (.loop { { apRec fn sv Bs D .ready none with state := .busy } with state := if (none : Option Code).isNone then .ready else .done, pending := none })) (ownsRow_ne_a hrow4 hL4 (fun cur e => by cases e))
  simpa [List.flatMap_append] using this
end Ytgdalboilghciaa
end Go.Proofs

set_option maxRecDepth 100000
set_option linter.unusedSimpArgs false
set_option linter.unusedVariables false
namespace Go.Proofs
open Go.RowKit Go.Maps Go.Sort Go.Shelf
namespace Ytgdalboilghciaa
set_option maxHeartbeats 4000000 in
theorem appendSeq_in (n : Nat) (hn : 2 ≤ n) (g : Nat) (lb : Array Value) (eg : ∀ args w, (callFunc g args).run Try.prog w = .ok (.enter g args) w)
    (S : List Go.Rx.Prt → Prop) (N : Nat) (hN : N ≤ maxLen) (hNb : N * 16 ≤ 140737488355328) (w : World) (hseq : SeqGives Fence.wide (n - 1) Try.prog g lb pv S N w) :
    CallsIn Fence.wide n Try.prog 45 #[.slice none 0 0, .func (.func g) #[] lb] w fun e w' => ∃ (v : Value) (ss : List Go.Rx.Prt), e = .returned v ∧ S ss ∧ w'.ownsRow w.heap.size 29 9 v ss.length (ss.flatMap pcs) ∧ (v = .slice none 0 0 ↔ ss = []) ∧ Below w.heap.size w w' := by
  have h1 : 1 ≤ n := by omega
  refine callsIn_of_wp_marks Try.func45 rfl trivial ?_ rfl
  simp only [Try.ntmps45, List.size_toArray, List.length_cons, List.length_nil, Nat.reduceAdd, Nat.reduceSub, Array.replicate_succ, Array.replicate_zero, List.push_toArray, List.append_toArray, List.nil_append, List.cons_append]
  gi_wp2
  refine wpIn_rangeFunc ?_
  intro fn hfn
  rw [show Fence.wide.round = none from rfl]
  obtain ⟨W0, hW0⟩ : ∃ W0, w.alloc (.cells #[.slice none 0 0] 72) = W0 := ⟨_, rfl⟩
  have hs0 : W0.heap.size = w.heap.size + 1 := by rw [← hW0]; simp
  have hv0 : W0.heap[w.heap.size]? = some (.cells #[.slice none 0 0] 72 (0, 0)) := by rw [← hW0]; exact World.alloc_heap_new w _
  have hb0 : Below w.heap.size w W0 := by rw [← hW0]; exact (Below.refl _ w).alloc (Nat.le_refl _) _
  rw [hW0]
  obtain ⟨W1, hW1⟩ : ∃ W1, (W0.alloc (.deferred (some []))).alloc (.loop (apRec fn (.func (.func g) #[] lb) w.heap.size W0.heap.size .ready none)) = W1 := ⟨_, rfl⟩
  have hold : ∀ k, k < W0.heap.size → W1.heap[k]? = W0.heap[k]? := fun k hk => by
    rw [← hW1]; exact (Below.heap_alloc _ _ k (by simp; omega)).trans (Below.heap_alloc _ _ k hk)
  have hb1 : Below w.heap.size w W1 := by rw [← hW1]; exact (hb0.alloc hb0.size _).alloc (by have := hb0.size; simp; omega) _
  have hs1 : W1.heap.size = W0.heap.size + 2 := by rw [← hW1]; simp
  have hM : ApAt w fn (.func (.func g) #[] lb) w.heap.size (W0.heap.size + 1) W0.heap.size [] W1 :=
    ⟨⟨_, (hold w.heap.size (by omega)).trans hv0, ⟨rfl, .inl ⟨rfl, rfl⟩⟩, by simp⟩,
     by rw [← hW1]; have := World.alloc_heap_new (W0.alloc (.deferred (some []))) (.loop (apRec fn (.func (.func g) #[] lb) w.heap.size W0.heap.size .ready none)); rwa [World.size_alloc] at this,
     by rw [← hW1]; exact (Below.heap_alloc _ _ _ (by simp)).trans (World.alloc_heap_new W0 _), hb1⟩
  refine ⟨W0.heap.size + 1, [{ target := .collected W0.heap.size, args := #[] }], W1, { target := .fn (.func g) lb, args := #[.func (.yield (W0.heap.size + 1)) #[] #[]] }, W1, g,
    #[.func (.yield (W0.heap.size + 1)) #[] #[]] ++ lb, W1, ?_, ?_, ?_, ?_, fun _ => h1, ?_⟩
  · rw [← hW1]; exact run_enterLoop_outer _ _ _ _ _
  · simp [resolve, go_sem]
  · intro f' hf'; trivial
  · simp [invoke, go_sem, eg]
  · refine (hseq (W0.heap.size + 1) (ApAt w fn (.func (.func g) #[] lb) w.heap.size (W0.heap.size + 1) W0.heap.size) W1 hb1 (ap_abides _ _ _ _ _ _ _ hb1.size)
      (fun pre x W hJ hl => apYield (n - 1 - 1) w fn _ w.heap.size (W0.heap.size + 1) W0.heap.size (by omega) (by omega) (by omega) (Nat.le_refl _) (by omega) N hN hNb pre x W hJ hl) hM).mono ?_
    rintro e W2 ⟨⟨v0, rfl⟩, ss, hS, h2⟩
    obtain ⟨v, hv, hrow, hnil⟩ := h2.box
    have hend := run_endLoop (P := Try.prog) h2.L (by simp [apRec])
    obtain ⟨W3, hW3⟩ : ∃ W3, W2.putObj (W0.heap.size + 1) (.loop { apRec fn (.func (.func g) #[] lb) w.heap.size W0.heap.size .ready none with state := .exhausted }) = W3 := ⟨_, rfl⟩
    rw [hW3] at hend
    have hg3 : W2.grownBy W3 (some (W0.heap.size + 1)) := by rw [← hW3]; exact grownBy_putObj_a _ _ _
    have hv3 : W3.heap[w.heap.size]? = some (.cells #[v] 72 (0, 0)) := by rw [← hW3]; exact (World.putObj_heap_other (by omega)).trans hv
    have hK3 : W3.heap[W0.heap.size]? = some (.deferred (some [])) := by rw [← hW3]; exact (World.putObj_heap_other (by omega)).trans h2.K
    have hrow3 := hrow.kept hg3 (ownsRow_ne_a hrow h2.L (fun cur e => by cases e))
    have hb3 : Below w.heap.size w W3 := h2.below.grown hg3 h2.below.size (fun k e => by cases e; omega)
    obtain ⟨hc3, hf3⟩ := cell_of_box_a hv3
    clear hW3
    refine ⟨none, W3, hend, ?_⟩
    gi_wp2
    rw [← hs0]
    refine ⟨by simp, .inl ⟨_, _, rfl, run_takeDeferred hK3, ?_⟩⟩
    exact ⟨_, results_tmp rfl _ _ _, v, ss, rfl, hS, hrow3.kept (grownBy_putObj_a _ _ _) (ownsRow_ne_a hrow3 hK3 (fun cur e => by cases e)), hnil, hb3.grown (grownBy_putObj_a _ _ _) hb3.size (fun k e => by cases e; omega)⟩
theorem enters40 : ∀ args w, (callFunc 40 args).run Try.prog w = .ok (.enter 40 args) w := fun args w => by simp [callFunc, go_sem, Try.func40, Try.f40]
theorem enters45 : ∀ args w, (callFunc 45 args).run Try.prog w = .ok (.enter 45 args) w := fun args w => by simp [callFunc, go_sem, Try.func45, Try.f45]
theorem enters39 : ∀ args w, (callFunc 39 args).run Try.prog w = .ok (.enter 39 args) w := fun args w => by simp [callFunc, go_sem, Try.func39, Try.f39]
theorem enters38 : ∀ args w, (callFunc 38 args).run Try.prog w = .ok (.enter 38 args) w := fun args w => by simp [callFunc, go_sem, Try.func38, Try.f38]
set_option maxHeartbeats 1000000 in
theorem collect_in (n : Nat) (hn : 3 ≤ n) (g : Nat) (lb : Array Value) (eg : ∀ args w, (callFunc g args).run Try.prog w = .ok (.enter g args) w)
    (S : List Go.Rx.Prt → Prop) (N : Nat) (hN : N ≤ maxLen) (hNb : N * 16 ≤ 140737488355328) (w : World) (hseq : SeqGives Fence.wide (n - 1 - 1) Try.prog g lb pv S N w) :
    CallsIn Fence.wide n Try.prog 38 #[.func (.func g) #[] lb] w fun e w' => ∃ (v : Value) (ss : List Go.Rx.Prt), e = .returned v ∧ S ss ∧ w'.ownsRow w.heap.size 29 9 v ss.length (ss.flatMap pcs) ∧ (v = .slice none 0 0 ↔ ss = []) ∧ Below w.heap.size w w' := by
  have h1 : 1 ≤ n := by omega
  have e45 := enters45
  have hF : Fence.wide.fn 45 := trivial
  refine callsIn_of_wp Try.func38 rfl trivial ?_ rfl
  simp only [Try.ntmps38, List.size_toArray, List.length_cons, List.length_nil, Nat.reduceAdd, Nat.reduceSub, Array.replicate_succ, Array.replicate_zero, List.push_toArray, List.append_toArray, List.nil_append, List.cons_append]
  gi_wp2_with (gi_at_fn 45; refine (appendSeq_in (n - 1) (by omega) g lb eg S N hN hNb _ hseq).mono ?_; rintro e w' ⟨v, ss, rfl, hS, hrow, hnil, hb⟩)
  go_ret
  exact ⟨v, ss, rfl, hS, hrow, hnil, hb⟩
end Ytgdalboilghciaa
end Go.Proofs

set_option maxRecDepth 100000
set_option linter.unusedSimpArgs false
set_option linter.unusedVariables false
namespace Go.Proofs
open Go.RowKit Go.Maps Go.Sort Go.Shelf
namespace Ytgdalboilghciaa
open Go.Rx (Prt V Blk Body Seg Rho VRel VsRel BRel MRel BsRel PostR Res SpecOK Fr K)
/-- What was there stays. -/
structure Grown (w w' : World) (g : Option Nat) : Prop where
  os : w'.os = w.os
  tape : w'.tape = w.tape
  output : w'.output = w.output
  size : w.heap.size ≤ w'.heap.size
  block : ∀ i, i < w.heap.size → some i ≠ g → w'.heap[i]? = w.heap[i]?
theorem sort_none (W : World) : Calls P 39 #[.slice none 0 0, .func (.func 35) #[] #[]] W fun e w' => e = .returned (.tuple #[]) ∧ Grown W w' none := by
  have h := ns_ok.correct [.nils, .fn (.func 35) [] []] [] ⟨.tup [], [], []⟩ rfl (fun _ => none) #[.slice none 0 0, .func (.func 35) #[] #[]] W
    (by refine ⟨_, _, rfl, ?_, _, _, rfl, ?_, rfl⟩ <;> simp only [VRel]; exact ⟨#[], #[], rfl, rfl, rfl⟩)
    ⟨by simp, by simp, by simp, Nat.zero_le _, trivial, by simp⟩
  refine h.mono ?_
  rintro e w' ⟨v, ρ', rfl, hp⟩
  have hv := hp.val
  simp only [VRel, VsRel] at hv
  obtain ⟨xs, rfl, hx⟩ := hv
  have : xs = #[] := by simpa using hx
  subst this
  exact ⟨rfl, hp.fr.os, hp.fr.tape, hp.fr.output, hp.fr.size, fun i hi _ => hp.fr.block i hi (by simp)⟩
theorem flat_ports : ∀ ps : List Prt, Go.Rx.flat (.rows pK (ps.map Prt.vs)) = ps.flatMap Prt.vs
  | [] => rfl
  | p :: ps => by
    have := flat_ports ps
    simp only [Go.Rx.flat_rows] at this ⊢
    rw [List.map_cons, List.flatMap_cons, this]
    rfl
theorem vs_pcs (ρ : Rho) (p : Prt) : VsRel ρ p.vs (pcs p) := by
  refine ⟨_, _, rfl, ?_, _, _, rfl, ?_, _, _, rfl, ?_, _, _, rfl, ?_, _, _, rfl, ?_, _, _, rfl, ?_, _, _, rfl, ?_, _, _, rfl, ?_, _, _, rfl, ?_, rfl⟩ <;> simp [VRel]
theorem vss_pcs (ρ : Rho) : ∀ ps : List Prt, VsRel ρ (ps.flatMap Prt.vs) (ps.flatMap pcs)
  | [] => rfl
  | p :: ps => by
    rw [List.flatMap_cons, List.flatMap_cons]
    exact (vs_pcs ρ p).append (vss_pcs ρ ps)
theorem rows_any {ρ ρ' : Rho} {s : Seg} {sch : List K} {rs : List (List V)} {w : World} (h : BRel ρ s (.rows sch rs) w) : BRel ρ' s (.rows sch rs) w :=
  Go.Rx.renB_rel (m := id) h (by simp [Go.Rx.locsB])
theorem sort_some (W : World) (g cap : Nat) (cur : Array Value) (ss : List Prt) (hg : W.heap[g]? = some (.cells cur 29 (0, 0))) (h1 : ss.length ≤ cap) (h2 : cur.size = cap * 9) (h3 : cur.toList.take (ss.length * 9) = ss.flatMap pcs)
    (h4 : 1 ≤ ss.length) (h5 : ss.length ≤ 12) :
    Calls P 39 #[.slice (some ⟨g, 0, none⟩) ss.length cap, .func (.func 35) #[] #[]] W fun e w' => e = .returned (.tuple #[]) ∧ Grown W w' (some g) ∧ ∀ ρ, BRel ρ ⟨g, 0, cap * 9, true⟩ (.rows pK ((isoL ss).map Prt.vs)) w' := by
  let ρ : Rho := fun b => if b = 0 then some ⟨g, 0, cap * 9, true⟩ else none
  have hB : BRel ρ ⟨g, 0, cap * 9, true⟩ (.rows pK (ss.map Prt.vs)) W := by
    refine ⟨?_, fun _ => ⟨cur, 29, (0, 0), hg, by simp; omega, ⟨fun i _ => by simp, fun _ => .inl rfl⟩, ?_⟩⟩
    · rw [flat_ports, ← (vss_pcs ρ ss).length, pcs_length]; show ss.length * 9 ≤ cap * 9; omega
    · rw [flat_ports]
      intro i v hv
      obtain ⟨x, hx, rx⟩ := (vss_pcs ρ ss).get i v hv
      refine ⟨x, ?_, rx⟩
      rw [← h3, List.getElem?_take] at hx
      split at hx
      · simpa using hx
      · cases hx
  have hBs : BsRel ρ [.rows pK (ss.map Prt.vs)] W := by
    refine ⟨fun b bl hb => ?_, fun b c s t hb hc _ _ _ _ => ?_, fun b hb => ?_, Nat.zero_le _, trivial, fun _ _ _ _ => Nat.zero_le _⟩
    · rcases b with _ | b
      · cases hb; exact ⟨_, rfl, hB⟩
      · cases hb
    · simp only [ρ] at hb hc
      split at hb <;> split at hc
      · omega
      · cases hc
      · cases hb
      · cases hb
    · have : b ≠ 0 := by simp at hb; omega
      simp only [ρ]; rw [if_neg this]
  have hs : (sfS [.sl 0 0 0 9 ss.length none, .fn (.func 35) [] []] [.rows pK (ss.map Prt.vs)]).den = some ⟨.tup [], [if movF (ss.take 1) (ss.drop 1) = true then some (some (.rows pK ((isoL ss).map Prt.vs))) else none], []⟩ := by
    have e0 : prts (ss.map Prt.vs) = ss := by unfold prts; rw [parseR_map]; rfl
    have e1 : (parseR (ss.map Prt.vs)).isSome = true := by rw [parseR_map]; rfl
    show (Go.Rx.Tree.need _ _).den = _
    rw [Go.Rx.den_need, Go.Rx.denI, Go.Rx.denLf, Go.Rx.denLf, e0, e1]
    refine ⟨by simp [h4, h5], ?_⟩
    split <;> rfl
  have h := sf_ok.correct _ _ _ hs ρ #[.slice (some ⟨g, 0, none⟩) ss.length cap, .func (.func 35) #[] #[]] W
    (by
      refine ⟨_, _, rfl, ?_, _, _, rfl, ?_, rfl⟩
      · simp only [VRel]
        exact ⟨⟨g, 0, cap * 9, true⟩, _, _, rfl, rfl, h1, by simp, fun _ => ⟨rfl, by simp⟩⟩
      · simp only [VRel]; exact ⟨#[], #[], rfl, rfl, rfl⟩)
    hBs
  refine h.mono ?_
  rintro e w' ⟨v, ρ', rfl, hp⟩
  have hv := hp.val
  simp only [VRel, VsRel] at hv
  obtain ⟨xs, rfl, hx⟩ := hv
  have : xs = #[] := by simpa using hx
  subst this
  have hρ' : ρ' 0 = some ⟨g, 0, cap * 9, true⟩ := hp.le 0 _ rfl
  have hsame : ∀ i, i < W.heap.size → some i ≠ some g → w'.heap[i]? = W.heap[i]? := fun i hi hne => hp.fr.block i hi (by
    rintro b s _ hb _ rfl
    simp only [ρ] at hb
    split at hb
    · cases hb; exact hne rfl
    · cases hb)
  refine ⟨rfl, ⟨hp.fr.os, hp.fr.tape, hp.fr.output, hp.fr.size, hsame⟩, fun ρ2 => ?_⟩
  cases hm : movF (ss.take 1) (ss.drop 1) with
  | true =>
    rw [hm] at hp
    rcases hp.old 0 _ rfl with e | ⟨bl, s, e, hs1, hs2⟩
    · cases e
    · cases e
      rw [hρ'] at hs1; cases hs1
      exact rows_any hs2
  | false =>
    have e : isoL ss = ss := by
      cases ss with
      | nil => rfl
      | cons p ps => exact isoF_stay ps [p] hm
    rw [e]
    rw [hm] at hp
    have hgl : g < W.heap.size := (Array.getElem?_eq_some_iff.1 hg).1
    have : w'.heap[g]? = W.heap[g]? := hp.fr.block g hgl (by
      rintro b s ⟨x, hx⟩ hb _ _
      rcases b with _ | b <;> simp at hx)
    exact rows_any (hB.same fun _ => this)
end Ytgdalboilghciaa
end Go.Proofs

set_option maxRecDepth 100000
set_option linter.unusedSimpArgs false
set_option linter.unusedVariables false
namespace Go.Proofs
open Go.RowKit Go.Maps Go.Sort Go.Shelf
namespace Ytgdalboilghciaa
open Go.Rx (Prt V Blk Body Seg Rho VRel VsRel BRel MRel BsRel PostR Res SpecOK Fr K Tree)
theorem below_grown {w w1 w2 : World} {g : Option Nat} (h : Below w.heap.size w w1) (k : Grown w1 w2 g) (hg : ∀ i, g = some i → w.heap.size ≤ i) : Grown w w2 none :=
  ⟨k.os.trans h.os, k.tape.trans h.tape, k.output.trans h.output, Nat.le_trans h.size k.size, fun i hi _ => (k.block i (Nat.lt_of_lt_of_le hi h.size) (fun e => by have := hg i e.symm; omega)).trans (h.block i hi)⟩
def ofPv : Value → Prt
  | .agg #[.int _ a0, .int _ a1, .int _ a2, .int _ a3, .int _ a4, .int _ a5, .int _ a6, .int _ a7, .int _ n] => ⟨⟨a0, a1, a2, a3, a4, a5, a6, a7⟩, n⟩
  | _ => default
theorem ofPv_pv (p : Prt) : ofPv (pv p) = p := rfl
theorem perm_of_pv {ss ps : List Prt} (h : (ss.map pv).Perm (ps.map pv)) : ss.Perm ps := by
  have := h.map ofPv
  simpa [List.map_map, Function.comp_def, ofPv_pv] using this
set_option maxHeartbeats 2000000 in
theorem sorted_in (Bm off b : Nat) (ps : List Prt) (es : Array MapEntry) (clock : Nat) (w : World) (hBm : Bm < w.heap.size)
    (hm : w.cell? ⟨Bm, off, none⟩ = some (.map (some b))) (hb : w.heap[b]? = some (.map es clock)) (hold : ∀ x ∈ es.toList, x.born < clock) (hnd : (es.toList.map (·.born)).Nodup)
    (hkey : es.toList.map (·.key) = ps.map pv) (hlen : ps.length ≤ 12) :
    CallsIn Fence.wide 4 P 33 #[.func (.func 40) #[] #[.pointer (some ⟨Bm, off, none⟩)], .func (.func 35) #[] #[]] w fun e w' =>
      ∃ v, e = .returned v ∧ Grown w w' none ∧ ((ps = [] ∧ v = .slice none 0 0) ∨ ∃ g cap, v = .slice (some ⟨g, 0, none⟩) ps.length cap ∧ ps ≠ [] ∧ ps.length ≤ cap ∧ w.heap.size ≤ g ∧ ∀ ρ, BRel ρ ⟨g, 0, cap * 9, true⟩ (.rows pK ((isoL ps).map Prt.vs)) w') := by
  have e38 := enters38
  have e39 := enters39
  have hF : Fence.wide.fn 38 := trivial
  have hF9 : Fence.wide.fn 39 := trivial
  have hsz : es.size = ps.length := by have := congrArg List.length hkey; simpa using this
  have hseq : SeqGives Fence.wide 1 Try.prog 40 #[.pointer (some ⟨Bm, off, none⟩)] pv (fun ss => (ss.map pv).Perm (es.toList.map (·.key))) es.size w :=
    keys_gives 1 (Nat.le_refl _) Bm off b es clock w hBm hm hb hold hnd (fun e he => by
      have : e.key ∈ es.toList.map (·.key) := List.mem_map_of_mem he
      rw [hkey] at this
      obtain ⟨p, _, e⟩ := List.mem_map.1 this
      exact ⟨p, e.symm⟩)
  have hcol := collect_in 3 (Nat.le_refl _) 40 #[.pointer (some ⟨Bm, off, none⟩)] enters40 _ es.size (by rw [hsz]; exact Nat.le_trans hlen (by decide)) (by omega) w hseq
  refine callsIn_of_wp Try.func33 rfl trivial ?_ rfl
  simp only [Try.ntmps33, List.size_toArray, List.length_cons, List.length_nil, Nat.reduceAdd, Nat.reduceSub, Array.replicate_succ, Array.replicate_zero, List.push_toArray, List.append_toArray, List.nil_append, List.cons_append]
  gi_wp2_with (gi_at_fn 38; refine hcol.mono ?_; rintro e W ⟨v, ss, rfl, hS, hrow, hnil, hbel⟩)
  rw [hkey] at hS
  have hpm := perm_of_pv hS
  have hl := hpm.length_eq
  rcases hrow.2 with ⟨rfl, hz⟩ | ⟨g, cap, cur, rfl, hbase, hgb, r1, r2, r3, r4⟩
  · have hss : ss = [] := List.eq_nil_of_length_eq_zero hz
    subst hss
    have hps : ps = [] := List.eq_nil_of_length_eq_zero (by simpa using hl.symm)
    have hsn := (callsIn_wide (n := 3)).2 (sort_none W)
    gi_wp2_with (gi_at_fn 39; refine hsn.mono ?_; rintro e w' ⟨rfl, hg⟩)
    go_ret
    exact ⟨_, rfl, below_grown hbel hg (fun i e => by cases e), .inl ⟨hps, rfl⟩⟩
  · have hne : ss ≠ [] := fun e => by
      have := hnil.2 e
      cases this
    have h1 : 1 ≤ ss.length := List.length_pos_iff.2 hne
    have hso := (callsIn_wide (n := 3)).2 (sort_some W g cap cur ss hgb r1 r3 r4 h1 (by omega))
    gi_wp2_with (gi_at_fn 39; refine hso.mono ?_; rintro e w' ⟨rfl, hg, hb2⟩)
    go_ret
    refine ⟨_, rfl, below_grown hbel hg (fun i e => by cases e; exact hbase), .inr ⟨g, cap, rfl, fun e => hne ?_, by omega, hbase, fun ρ => ?_⟩⟩
    · rw [e] at hpm; exact hpm.eq_nil
    · rw [← isoL_eq hpm]; exact hb2 ρ
/-- The keys of a map: ports. -/
def keysP : List V → Option (List Prt)
  | [] => some []
  | .agg [.int .u8 a0, .int .u8 a1, .int .u8 a2, .int .u8 a3, .int .u8 a4, .int .u8 a5, .int .u8 a6, .int .u8 a7, .int .i64 n] :: rs => (keysP rs).map (⟨⟨a0, a1, a2, a3, a4, a5, a6, a7⟩, n⟩ :: ·)
  | _ => none
theorem keysP_eq : ∀ (rs : List V) (ps : List Prt), keysP rs = some ps → rs = ps.map Prt.v := by
  intro rs
  induction rs with
  | nil => intro ps h; simp [keysP] at h; subst h; rfl
  | cons r rs ih =>
    intro ps h
    unfold keysP at h
    split at h
    · cases h; rename_i e; cases e
    · rename_i e
      cases e
      obtain ⟨q, hq, rfl⟩ := Option.map_eq_some_iff.1 h
      rw [List.map_cons, ← ih q hq]
      rfl
    · cases h
theorem vrel_port {ρ : Rho} {p : Prt} {x : Value} (h : VRel ρ p.v x) : x = pv p := by
  obtain ⟨⟨a0, a1, a2, a3, a4, a5, a6, a7⟩, a8⟩ := p
  simp only [Prt.v, VRel] at h
  obtain ⟨xs, rfl, h⟩ := h
  obtain ⟨x0, r0, e0, h0, x1, r1, e1, h1, x2, r2, e2, h2, x3, r3, e3, h3, x4, r4, e4, h4, x5, r5, e5, h5, x6, r6, e6, h6, x7, r7, e7, h7, x8, r8, e8, h8, e9⟩ := h
  simp only [VRel] at h0 h1 h2 h3 h4 h5 h6 h7 h8
  subst h0 h1 h2 h3 h4 h5 h6 h7 h8 e9 e8 e7 e6 e5 e4 e3 e2 e1
  cases xs with
  | mk l => simp only at e0; subst e0; rfl
theorem vrel_ports {ρ : Rho} : ∀ {ps : List Prt} {xs : List Value}, VsRel ρ (ps.map Prt.v) xs → xs = ps.map pv
  | [], xs, h => h
  | p :: ps, xs, h => by
    obtain ⟨y, ys, rfl, h1, h2⟩ := h
    rw [vrel_port h1, vrel_ports h2]; rfl


def stS (srt : List Prt → List Prt) : Rx.Spec := fun a b => match a, b with
  | [.fn (.func 40) [] [.ptr 0 0 0 0], .fn (.func 35) [] []], .cells [.mapr 1] :: .kv ks vs :: rest =>
    match keysP ks with
    | some [] => .leaf ⟨.nils, List.replicate (rest.length + 2) none, []⟩
    | some (p :: ps) => .lit (Nat.ble (p :: ps).length 12) (.leaf ⟨.sl (rest.length + 2) 0 0 9 (p :: ps).length none, List.replicate (rest.length + 2) none, [.rows pK ((srt (p :: ps)).map Prt.vs)]⟩)
    | none => .fail
  | _, _ => .fail
theorem st_ok {srt : List Prt → List Prt} (hsrt : ∀ l, srt l = isoL l) : SpecOK P 33 (stS srt) := by
  refine ⟨?_, Try.f33, Try.func33, by rfl, by rfl⟩
  intro args bs r h ρ xs w hx hbs
  unfold stS at h
  split at h
  · rename_i ks vs rest
    obtain ⟨s0, hρ0, hB0⟩ := hbs.1 0 _ rfl
    obtain ⟨s1, hρ1, hB1⟩ := hbs.1 1 _ rfl
    have hlen : (Body.cells [V.mapr 1] :: Body.kv ks vs :: rest).length = rest.length + 2 := rfl
    rw [hlen]
    obtain ⟨y1, l1, e1, hy1, y2, l2, e2, hy2, e3⟩ := hx
    simp only [VRel] at hy1 hy2
    obtain ⟨a1, c1, rfl, ha1, hc1⟩ := hy1
    obtain ⟨a2, c2, rfl, ha2, hc2⟩ := hy2
    obtain ⟨z, l3, ez, hz, e4⟩ := hc1
    simp only [VRel] at hz
    obtain ⟨s0', hρ0', rfl⟩ := hz
    rw [hρ0] at hρ0'; cases hρ0'
    have ea1 : a1 = #[] := by cases a1; simpa [VsRel] using ha1
    have ea2 : a2 = #[] := by cases a2; simpa [VsRel] using ha2
    have ec2 : c2 = #[] := by cases c2; simpa [VsRel] using hc2
    have ec1 : c1 = #[.pointer (some ⟨s0.r, s0.base + (0 * 0 + 0), none⟩)] := by
      cases c1 with
      | mk l => simp only at ez; rw [ez, e4]
    subst ea1 ea2 ec1 ec2
    have exs : xs = #[.func (.func 40) #[] #[.pointer (some ⟨s0.r, s0.base + (0 * 0 + 0), none⟩)], .func (.func 35) #[] #[]] := by
      cases xs with
      | mk l => simp only at e1; rw [e1, e2, e3]
    subst exs
    obtain ⟨x, hx0, hxr⟩ := hB0.cell (i := 0) (v := .mapr 1) rfl
    simp only [VRel] at hxr
    obtain ⟨s1', hρ1', hR1, rfl⟩ := hxr
    rw [hρ1] at hρ1'; cases hρ1'
    obtain ⟨ens, clock, hb, hks, hvs, hnd, hold⟩ := hB1.2 hR1
    have hBm : s0.r < w.heap.size := hB0.lt (hB0.pos (i := 0) (v := .mapr 1) rfl)
    have hdom : ∀ b s, ρ b = some s → b < rest.length + 2 := fun b s hb => by
      rcases Nat.lt_or_ge b (rest.length + 2) with h | h
      · exact h
      · rw [hbs.2.2.1 b h] at hb; cases hb
    split at h
    · rename_i hk
      rw [Go.Rx.denLf] at h; cases h
      have hks' := keysP_eq _ _ hk
      subst hks'
      have := sorted_in s0.r (s0.base + (0 * 0 + 0)) s1.r [] ens clock w hBm hx0 hb hold hnd (vrel_ports hks) (by simp)
      refine (callsIn_wide.1 this).mono ?_
      rintro e w' ⟨v, rfl, hg, ⟨_, rfl⟩ | ⟨g, cap, _, hne, _⟩⟩
      · refine ⟨_, ρ, rfl, Go.Rx.Le.refl _, fun b s hb => by simpa using hdom b s hb, by simp [VRel], fun b x hb => ?_, fun j bl hj => by simp at hj, ⟨hg.os, hg.tape, hg.output, hg.size, fun i hi _ => hg.block i hi (by simp)⟩, fun j s hj => ?_, fun i j s t hi _ => ?_⟩
        · have := List.getElem?_replicate (a := (none : Option (Option Body))) (n := rest.length + 2) (i := b)
          rw [this] at hb; split at hb <;> cases hb
        · have := hdom _ _ hj; omega
        · have := hdom _ _ hi; omega
      · exact absurd rfl hne
    · rename_i p ps hk
      rw [Go.Rx.den_lit, Go.Rx.denLf] at h
      obtain ⟨hle, h⟩ := h
      cases h
      have hks' := keysP_eq _ _ hk
      subst hks'
      have := sorted_in s0.r (s0.base + (0 * 0 + 0)) s1.r (p :: ps) ens clock w hBm hx0 hb hold hnd (vrel_ports hks) (by simpa using hle)
      refine (callsIn_wide.1 this).mono ?_
      rintro e w' ⟨v, rfl, hg, ⟨hne, _⟩ | ⟨g, cap, rfl, _, hcap, hgb, hBR⟩⟩
      · cases hne
      · have hno : ρ (rest.length + 2) = none := hbs.2.2.1 _ (Nat.le_refl _)
        refine ⟨_, Go.Rx.addR ρ (rest.length + 2) ⟨g, 0, cap * 9, true⟩, rfl, Go.Rx.addR_le hno, fun b s hb => ?_, ?_, fun b x hb => ?_, fun j bl hj => ?_, ⟨hg.os, hg.tape, hg.output, hg.size, fun i hi _ => hg.block i hi (by simp)⟩, fun j s hj => ?_, fun i j s t hi hj _ _ _ => ?_⟩
        · unfold Go.Rx.addR at hb
          split at hb
          · rename_i e; subst e; simp
          · have := hdom _ _ hb; simp; omega
        · simp only [VRel]
          exact ⟨_, _, _, Go.Rx.addR_self _ _ _, rfl, hcap, by simp, fun _ => ⟨rfl, by simp⟩⟩
        · have := List.getElem?_replicate (a := (none : Option (Option Body))) (n := rest.length + 2) (i := b)
          rw [this] at hb; split at hb <;> cases hb
        · rcases j with _ | j
          · cases hj
            refine ⟨_, Go.Rx.addR_self _ _ _, ?_⟩
            rw [hsrt]
            exact hBR _
          · cases hj
        · unfold Go.Rx.addR at hj
          split at hj
          · cases hj; exact .inr (.inl hgb)
          · have := hdom _ _ hj; omega
        · unfold Go.Rx.addR at hi hj
          split at hi <;> split at hj
          · omega
          · have := hdom _ _ hj; omega
          · have := hdom _ _ hi; omega
          · have := hdom _ _ hi; omega
    · simp [Go.Rx.den_fail] at h
  · simp [Go.Rx.den_fail] at h
end Ytgdalboilghciaa
end Go.Proofs

set_option maxRecDepth 100000
set_option linter.unusedSimpArgs false
set_option linter.unusedVariables false
namespace Go.Proofs.Ytgdalboilghciaa
open Go.Rx
noncomputable abbrev seG (srt : List Prt → List Prt) : List (Nat × Rx.Spec) := [(34, fFn P (specsOf []) (loopsOf []) Try.f34), (33, stS srt)]
theorem seG_ok {srt : List Prt → List Prt} (hsrt : ∀ l, srt l = isoL l) : GammaOK P (seG srt) := .cons (inl_ok (GammaOK.nil P) hm Try.func34 (by kernel_rfl) (LoopsOK.nil (by kernel_rfl))) (.cons (st_ok hsrt) (.nil P))
def seR (srt : List Prt → List Prt) (es : TabE) : Tree Res :=
  match es with
  | [] => .leaf ⟨.sl 2 0 0 9 0 none, [none, none], [.rows pK []]⟩
  | e :: r => .leaf ⟨.sl (r.length + 3) 0 0 9 (r.length + 1) none, List.replicate (r.length + 3) none, [.rows pK ((srt ((e :: r).map (·.1))).map Prt.vs)]⟩
def seS (srt : List Prt → List Prt) : Rx.Spec := fun a b => match a, tabP b with
  | [.ptr 0 0 0 0], some (own, win, es) => .lit (Nat.ble es.length 5) (seR srt es)
  | _, _ => .fail
theorem se_0 (srt : List Prt → List Prt) (own : Ck) (win : Int)  : Tree.denN (fFn P (specsOf (seG srt)) (loopsOf []) Try.f24 [.ptr 0 0 0 0] (tabB own win [])) = Tree.denN (seR srt []) := show Tree.denN (fFn P (specsOf (seG srt)) (loopsOf []) Try.f24 [.ptr 0 0 0 0] (tabB own win [])) = Tree.denN (seR srt []) from by kernel_rfl
theorem se_1 (srt : List Prt → List Prt) (own : Ck) (win : Int) (p0 : Prt) (e0 : Ent) : Tree.denN (fFn P (specsOf (seG srt)) (loopsOf []) Try.f24 [.ptr 0 0 0 0] (tabB own win [(p0, e0)])) = Tree.denN (seR srt [(p0, e0)]) := show Tree.denN (fFn P (specsOf (seG srt)) (loopsOf []) Try.f24 [.ptr 0 0 0 0] (tabB own win [(p0, e0)])) = Tree.denN (seR srt [(p0, e0)]) from by kernel_rfl
theorem se_2 (srt : List Prt → List Prt) (own : Ck) (win : Int) (p0 : Prt) (e0 : Ent) (p1 : Prt) (e1 : Ent) : Tree.denN (fFn P (specsOf (seG srt)) (loopsOf []) Try.f24 [.ptr 0 0 0 0] (tabB own win [(p0, e0), (p1, e1)])) = Tree.denN (seR srt [(p0, e0), (p1, e1)]) := show Tree.denN (fFn P (specsOf (seG srt)) (loopsOf []) Try.f24 [.ptr 0 0 0 0] (tabB own win [(p0, e0), (p1, e1)])) = Tree.denN (seR srt [(p0, e0), (p1, e1)]) from by kernel_rfl
theorem se_3 (srt : List Prt → List Prt) (own : Ck) (win : Int) (p0 : Prt) (e0 : Ent) (p1 : Prt) (e1 : Ent) (p2 : Prt) (e2 : Ent) : Tree.denN (fFn P (specsOf (seG srt)) (loopsOf []) Try.f24 [.ptr 0 0 0 0] (tabB own win [(p0, e0), (p1, e1), (p2, e2)])) = Tree.denN (seR srt [(p0, e0), (p1, e1), (p2, e2)]) := show Tree.denN (fFn P (specsOf (seG srt)) (loopsOf []) Try.f24 [.ptr 0 0 0 0] (tabB own win [(p0, e0), (p1, e1), (p2, e2)])) = Tree.denN (seR srt [(p0, e0), (p1, e1), (p2, e2)]) from by kernel_rfl
theorem se_4 (srt : List Prt → List Prt) (own : Ck) (win : Int) (p0 : Prt) (e0 : Ent) (p1 : Prt) (e1 : Ent) (p2 : Prt) (e2 : Ent) (p3 : Prt) (e3 : Ent) : Tree.denN (fFn P (specsOf (seG srt)) (loopsOf []) Try.f24 [.ptr 0 0 0 0] (tabB own win [(p0, e0), (p1, e1), (p2, e2), (p3, e3)])) = Tree.denN (seR srt [(p0, e0), (p1, e1), (p2, e2), (p3, e3)]) := show Tree.denN (fFn P (specsOf (seG srt)) (loopsOf []) Try.f24 [.ptr 0 0 0 0] (tabB own win [(p0, e0), (p1, e1), (p2, e2), (p3, e3)])) = Tree.denN (seR srt [(p0, e0), (p1, e1), (p2, e2), (p3, e3)]) from by kernel_rfl
theorem se_5 (srt : List Prt → List Prt) (own : Ck) (win : Int) (p0 : Prt) (e0 : Ent) (p1 : Prt) (e1 : Ent) (p2 : Prt) (e2 : Ent) (p3 : Prt) (e3 : Ent) (p4 : Prt) (e4 : Ent) : Tree.denN (fFn P (specsOf (seG srt)) (loopsOf []) Try.f24 [.ptr 0 0 0 0] (tabB own win [(p0, e0), (p1, e1), (p2, e2), (p3, e3), (p4, e4)])) = Tree.denN (seR srt [(p0, e0), (p1, e1), (p2, e2), (p3, e3), (p4, e4)]) := show Tree.denN (fFn P (specsOf (seG srt)) (loopsOf []) Try.f24 [.ptr 0 0 0 0] (tabB own win [(p0, e0), (p1, e1), (p2, e2), (p3, e3), (p4, e4)])) = Tree.denN (seR srt [(p0, e0), (p1, e1), (p2, e2), (p3, e3), (p4, e4)]) from by kernel_rfl
theorem se_ok {srt : List Prt → List Prt} (hsrt : ∀ l, srt l = isoL l) : SpecOK P 24 (seS srt) := by
  refine specOK_fast (seG_ok hsrt) hm (Λ := loopsOf []) Try.func24 (by kernel_rfl) (LoopsOK.nil (by kernel_rfl)) ?_
  intro args bs r h
  unfold seS at h
  split at h
  · rename_i own win es hb
    have hb := tabP_eq hb
    subst hb
    rw [den_lit] at h
    obtain ⟨hn, h⟩ := h
    have h := denN_of h
    rw [← h]
    rcases es with _ | ⟨⟨p0, e0⟩, _ | ⟨⟨p1, e1⟩, _ | ⟨⟨p2, e2⟩, _ | ⟨⟨p3, e3⟩, _ | ⟨⟨p4, e4⟩, _ | ⟨⟨p5, e5⟩, es⟩⟩⟩⟩⟩⟩
    · exact se_0 srt own win 
    · exact se_1 srt own win p0 e0
    · exact se_2 srt own win p0 e0 p1 e1
    · exact se_3 srt own win p0 e0 p1 e1 p2 e2
    · exact se_4 srt own win p0 e0 p1 e1 p2 e2 p3 e3
    · exact se_5 srt own win p0 e0 p1 e1 p2 e2 p3 e3 p4 e4
    · exact absurd hn (by simp)
  · simp [den_fail] at h
end Go.Proofs.Ytgdalboilghciaa
