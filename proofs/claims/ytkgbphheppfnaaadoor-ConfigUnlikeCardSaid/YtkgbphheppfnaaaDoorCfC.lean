/- Layer 17: the plain laws of texts cut at a byte, of numbers, of a configuration's lines. No program. -/
import Derived.Test.YtkgbphheppfnaaaDoorCfB
set_option linter.unusedSimpArgs false
set_option linter.unusedVariables false
set_option linter.unnecessarySimpa false
set_option linter.unusedSectionVars false
set_option maxRecDepth 100000
set_option linter.unusedSimpArgs false
set_option linter.unusedVariables false
namespace Go.Proofs.YtkgbphheppfnaaaDoor
open Go.Rx
/-- The pieces of a text between one byte. -/
def cutU (c : UInt8) : List UInt8 → List (List UInt8)
  | [] => [[]]
  | b :: l => if b = c then [] :: cutU c l else (b :: (cutU c l).headD []) :: (cutU c l).tail
/-- Pieces joined by one byte. -/
def joinU (c : UInt8) : List (List UInt8) → List UInt8
  | [] => []
  | [w] => w
  | w :: x :: ws => w ++ c :: joinU c (x :: ws)
def toB (l : List UInt8) : ByteArray := ⟨l.toArray⟩
theorem toB_data (l : List UInt8) : (toB l).data.toList = l := rfl
theorem toB_of (s : ByteArray) : toB s.data.toList = s := by
  cases s; rfl
theorem toB_inj {l m : List UInt8} (h : toB l = toB m) : l = m := by
  have := congrArg (fun s => s.data.toList) h
  exact this
theorem toB_size (l : List UInt8) : (toB l).size = l.length := rfl
theorem cut_ne (c : UInt8) : ∀ l, cutU c l ≠ []
  | [] => by simp [cutU]
  | b :: l => by unfold cutU; split <;> simp
theorem cut_hd (c : UInt8) (l : List UInt8) : (cutU c l).headD [] :: (cutU c l).tail = cutU c l := by
  cases h : cutU c l with
  | nil => exact absurd h (cut_ne c l)
  | cons => rfl
theorem index_ne {b c : UInt8} (l : List UInt8) (h : b ≠ c) : Lib.index (b :: l) [c] = if Lib.index l [c] == -1 then -1 else Lib.index l [c] + 1 := by
  have hp : ([c] : List UInt8).isPrefixOf (b :: l) = false := by simp [List.isPrefixOf, Ne.symm h]
  rw [Lib.index, hp]; simp
theorem index_eq (c : UInt8) (l : List UInt8) : Lib.index (c :: l) [c] = 0 := by
  rw [Lib.index]; simp [List.isPrefixOf]
theorem splitK_cut (c : UInt8) : ∀ s : List UInt8, Lib.splitK [c] 0 (Lib.count s [c]) s = cutU c s
  | [] => by rw [Lib.count_one]; rfl
  | b :: l => by
    have ih := splitK_cut c l
    by_cases h : b = c
    · subst h
      rw [Lib.count_cons_eq, Nat.add_comm, Lib.splitK, index_eq]
      unfold cutU
      rw [if_pos rfl, ← ih]
      rfl
    · unfold cutU
      rw [if_neg h, Lib.count_cons_ne b c l h]
      cases hk : Lib.count l [c] with
      | zero => rw [hk] at ih; rw [← ih]; rfl
      | succ k =>
        rw [hk] at ih
        rw [← ih]
        have hn : Lib.index l [c] ≠ -1 := fun e => by rw [Lib.count_miss e] at hk; cases hk
        have hge := Lib.index_ge l [c]
        obtain ⟨j, hj⟩ : ∃ j : Nat, Lib.index l [c] = j := ⟨(Lib.index l [c]).toNat, by omega⟩
        have hn' : ¬ ((Lib.index l [c] == -1) = true) := fun e => hn (beq_iff_eq.1 e)
        rw [Lib.splitK, Lib.splitK, index_ne l h, if_neg hn', if_neg hn', if_neg (by rw [hj]; intro e; have := beq_iff_eq.1 e; omega), hj]
        rw [show ((j : Int) + 1).toNat = j + 1 by omega]
        simp
theorem parts_cut (s : ByteArray) (c : UInt8) : parts s ⟨#[c]⟩ = (cutU c s.data.toList).map toB := by
  have h := Lib.splitB_data ⟨#[c]⟩ 0 (Lib.countB s ⟨#[c]⟩) s
  have hc : Lib.countB s ⟨#[c]⟩ = Lib.count s.data.toList [c] := rfl
  rw [hc] at h
  have e : (parts s ⟨#[c]⟩).map (fun p => p.data.toList) = cutU c s.data.toList := by
    rw [← splitK_cut]; exact h
  rw [← e, List.map_map]
  conv => lhs; rw [← List.map_id (parts s ⟨#[c]⟩)]
  exact List.map_congr_left fun x _ => (toB_of x).symm
theorem cut_plain {c : UInt8} : ∀ {l : List UInt8}, c ∉ l → cutU c l = [l]
  | [], _ => rfl
  | b :: l, h => by
    simp only [List.mem_cons, not_or] at h
    unfold cutU
    rw [if_neg (Ne.symm h.1), cut_plain h.2]; rfl
theorem cut_app {c : UInt8} : ∀ {w : List UInt8} (l : List UInt8), c ∉ w → cutU c (w ++ c :: l) = w :: cutU c l
  | [], l, _ => by show cutU c (c :: l) = _; rw [cutU, if_pos rfl]
  | b :: w, l, h => by
    simp only [List.mem_cons, not_or] at h
    show cutU c (b :: (w ++ c :: l)) = _
    rw [cutU, if_neg (Ne.symm h.1), cut_app l h.2]; rfl
theorem cut_join {c : UInt8} : ∀ {ws : List (List UInt8)}, ws ≠ [] → (∀ w ∈ ws, c ∉ w) → cutU c (joinU c ws) = ws
  | [], h, _ => absurd rfl h
  | [w], _, h => cut_plain (h w (by simp))
  | w :: x :: ws, _, h => by
    show cutU c (w ++ c :: joinU c (x :: ws)) = _
    rw [cut_app _ (h w (by simp)), cut_join (by simp) fun y hy => h y (List.mem_cons_of_mem _ hy)]
theorem join_cons (c b : UInt8) : ∀ ws : List (List UInt8), ws ≠ [] → joinU c ((b :: ws.headD []) :: ws.tail) = b :: joinU c ws
  | [], h => absurd rfl h
  | [w], _ => rfl
  | w :: x :: ws, _ => rfl
theorem join_nil (c : UInt8) : ∀ ws : List (List UInt8), ws ≠ [] → joinU c ([] :: ws) = c :: joinU c ws
  | [], h => absurd rfl h
  | w :: ws, _ => rfl
theorem join_cut (c : UInt8) : ∀ l, joinU c (cutU c l) = l
  | [] => rfl
  | b :: l => by
    unfold cutU
    split
    · rename_i h
      subst h
      rw [join_nil _ _ (cut_ne _ _), join_cut]
    · rw [join_cons _ _ _ (cut_ne _ _), join_cut]
theorem cut_not {c : UInt8} : ∀ {l w : List UInt8}, w ∈ cutU c l → c ∉ w
  | [], w, h => by
    simp only [cutU, List.mem_singleton] at h; rw [h]; simp
  | b :: l, w, h => by
    unfold cutU at h
    split at h
    · rcases List.mem_cons.1 h with rfl | h
      · simp
      · exact cut_not h
    · rename_i hb
      have e := cut_hd c l
      rcases List.mem_cons.1 h with rfl | h
      · simp only [List.mem_cons, not_or]
        exact ⟨Ne.symm hb, cut_not (l := l) (by rw [← e]; simp)⟩
      · exact cut_not (l := l) (by rw [← e]; exact List.mem_cons_of_mem _ h)
theorem mem_join {c b : UInt8} : ∀ {ws : List (List UInt8)}, b ∈ joinU c ws → b = c ∨ ∃ w ∈ ws, b ∈ w
  | [], h => by cases h
  | [w], h => .inr ⟨w, by simp, h⟩
  | w :: x :: ws, h => by
    have h : b ∈ w ++ c :: joinU c (x :: ws) := h
    rcases List.mem_append.1 h with h | h
    · exact .inr ⟨w, by simp, h⟩
    · rcases List.mem_cons.1 h with h | h
      · exact .inl h
      · rcases mem_join h with h | ⟨y, hy, hb⟩
        · exact .inl h
        · exact .inr ⟨y, List.mem_cons_of_mem _ hy, hb⟩
theorem mem_join_of {c b : UInt8} : ∀ {ws : List (List UInt8)} {w : List UInt8}, w ∈ ws → b ∈ w → b ∈ joinU c ws
  | [], w, h, _ => by cases h
  | [x], w, h, hb => by simp only [List.mem_singleton] at h; subst h; exact hb
  | y :: x :: ws, w, h, hb => by
    show b ∈ y ++ c :: joinU c (x :: ws)
    rcases List.mem_cons.1 h with rfl | h
    · exact List.mem_append_left _ hb
    · exact List.mem_append_right _ (List.mem_cons_of_mem _ (mem_join_of h hb))
/-- Lines, each with its end. -/
def txtU (ls : List (List UInt8)) : List UInt8 := ls.flatMap fun l => l ++ [10]
theorem txt_cons (l : List UInt8) (ls : List (List UInt8)) : txtU (l :: ls) = l ++ 10 :: txtU ls := by simp [txtU]
theorem txt_app (a b : List (List UInt8)) : txtU (a ++ b) = txtU a ++ txtU b := by simp [txtU]
theorem cut_txt : ∀ {ls : List (List UInt8)}, (∀ l ∈ ls, (10 : UInt8) ∉ l) → cutU 10 (txtU ls) = ls ++ [[]]
  | [], _ => rfl
  | l :: ls, h => by
    rw [txt_cons, cut_app _ (h l (by simp)), cut_txt fun x hx => h x (List.mem_cons_of_mem _ hx)]; rfl
theorem join_txt : ∀ ls : List (List UInt8), joinU 10 (ls ++ [[]]) = txtU ls
  | [] => rfl
  | [l] => by simp [joinU, txtU]
  | l :: m :: ls => by
    rw [txt_cons, ← join_txt (m :: ls)]; rfl
/-! Numbers. -/
theorem parse_app (acc : Nat) : ∀ (l r : List UInt8), Lib.parseUint10 acc (l ++ r) = match Lib.parseUint10 acc l with | .ok a => Lib.parseUint10 a r | .«syntax» => .«syntax» | .range => .range := by
  intro l
  induction l generalizing acc with
  | nil => intro r; rfl
  | cons c l ih =>
    intro r
    simp only [List.cons_append, Lib.parseUint10]
    split
    · split
      · rfl
      · split
        · rfl
        · exact ih _ r
    · rfl
theorem dig_nat {d : Nat} (h : d < 10) : (UInt8.ofNat (48 + d)).toNat = 48 + d := by rw [UInt8.toNat_ofNat']; omega
theorem parse_one {acc d : Nat} (h : d < 10) (ha : acc * 10 + d < 18446744073709551616) : Lib.parseUint10 acc [UInt8.ofNat (48 + d)] = .ok (acc * 10 + d) := by
  simp only [Lib.parseUint10, dig_nat h]
  rw [if_pos ⟨by omega, by omega⟩, if_neg (by omega), if_neg (by omega), show 48 + d - 48 = d by omega]
theorem parse_dec (u : Nat) (h : u < 18446744073709551616) : Lib.parseUint10 0 (Lib.decDigits u) = .ok u := by
  induction u using Nat.strongRecOn with
  | _ u ih =>
    rw [Lib.decDigits]
    by_cases hu : u < 10
    · rw [dif_pos hu, parse_one hu (by omega)]; simp
    · rw [dif_neg hu, parse_app, ih (u / 10) (by omega) (by omega)]
      simp only
      rw [parse_one (by omega) (by omega), show u / 10 * 10 + u % 10 = u by omega]
theorem dec_ne (u : Nat) : Lib.decDigits u ≠ [] := by
  rw [Lib.decDigits]; split <;> simp
theorem parseMag_dec (u : Nat) (h : u < 18446744073709551616) : Lib.parseMag (Lib.decDigits u) = .ok u := by
  unfold Lib.parseMag; rw [if_neg (dec_ne u), parse_dec u h]
theorem dec_digits (u : Nat) : ∀ b ∈ Lib.decDigits u, 48 ≤ b.toNat ∧ b.toNat ≤ 57 := by
  induction u using Nat.strongRecOn with
  | _ u ih =>
    intro b hb
    rw [Lib.decDigits] at hb
    by_cases hu : u < 10
    · rw [dif_pos hu, List.mem_singleton] at hb
      rw [hb, dig_nat hu]; omega
    · rw [dif_neg hu] at hb
      rcases List.mem_append.1 hb with hb | hb
      · exact ih _ (by omega) b hb
      · rw [List.mem_singleton] at hb
        rw [hb, dig_nat (by omega)]; omega
theorem itoa_bytes (n : Int) : ∀ b ∈ Lib.itoa n, b.toNat = 45 ∨ (48 ≤ b.toNat ∧ b.toNat ≤ 57) := by
  intro b hb
  unfold Lib.itoa at hb
  split at hb
  · rcases List.mem_cons.1 hb with rfl | hb
    · exact .inl rfl
    · exact .inr (dec_digits _ b hb)
  · exact .inr (dec_digits _ b hb)
theorem atoi_itoa {n : Int} (h : -9223372036854775808 ≤ n) (h2 : n ≤ 9223372036854775807) : Lib.atoiAll (Lib.itoa n) = .ok n := by
  unfold Lib.itoa
  split
  · rw [Lib.atoiAll_minus, parseMag_dec _ (by omega)]
    simp only [Lib.signed]
    rw [if_neg (by omega)]
    congr 1; omega
  · cases hd : Lib.decDigits n.toNat with
    | nil => exact absurd hd (dec_ne _)
    | cons c r =>
      have hc := dec_digits n.toNat c (by rw [hd]; simp)
      rw [Lib.atoiAll_plain c r (by omega) (by omega), ← hd, parseMag_dec _ (by omega)]
      simp only [Lib.signless]
      rw [if_neg (by omega)]
      congr 1; omega
theorem dec_len : ∀ (k u : Nat), u < 10 ^ (k + 1) → (Lib.decDigits u).length ≤ k + 1
  | 0, u, h => by rw [Lib.decDigits, dif_pos (by omega)]; simp
  | k + 1, u, h => by
    rw [Lib.decDigits]
    split
    · simp
    · have := dec_len k (u / 10) (by rw [Nat.pow_succ] at h; omega)
      simp; omega
def big (n : Int) : Bool := decide (-1000000000000000000 < n) && decide (n < 1000000000000000000)
theorem itoaS_toB (n : Int) : itoaS n = toB (Lib.itoa n) := rfl
theorem nuB_ito {n : Int} (h : big n = true) : nuB (itoaS n) = true ∧ atoV (itoaS n) = n := by
  simp only [big, Bool.and_eq_true, decide_eq_true_eq] at h
  have ha := atoi_itoa (n := n) (by omega) (by omega)
  have hv : atoV (itoaS n) = n := by unfold atoV; rw [itoaS_toB, toB_data, ha]
  have hk : atoK (itoaS n) = true := by unfold atoK; rw [itoaS_toB, toB_data, ha]
  refine ⟨?_, hv⟩
  unfold nuB
  rw [hk, hv, sEq_iff.2 rfl]
  have ht : (trS (itoaS n)).size ≤ 18 := by
    unfold trS
    rw [itoaS_toB]
    unfold Lib.itoa
    split
    · rename_i hn
      have hl := dec_len 17 n.natAbs (by omega)
      have e : sEq ((toB (45 :: Lib.decDigits n.natAbs)).extract 0 1) ⟨#[45]⟩ = true := by
        rw [sEq_iff]
        apply nums_inj
        rw [nums_extract]
        show _ = [45]
        rw [show numsOf (toB (45 :: Lib.decDigits n.natAbs)) = 45 :: (Lib.decDigits n.natAbs).map (fun b => (b.toNat : Int)) from nums_list _]
        rfl
      rw [e, decide_eq_true (by rw [toB_size, List.length_cons]; omega)]
      show ((toB _).extract 1 _).size ≤ 18
      rw [ByteArray.size_extract, toB_size, List.length_cons]; omega
    · have hl := dec_len 17 n.toNat (by omega)
      have e : sEq ((toB (Lib.decDigits n.toNat)).extract 0 1) ⟨#[45]⟩ = false := by
        apply Bool.eq_false_iff.2
        rw [Ne, sEq_iff]
        intro h
        have := congrArg numsOf h
        rw [nums_extract] at this
        rw [show numsOf (toB (Lib.decDigits n.toNat)) = (Lib.decDigits n.toNat).map (fun b => (b.toNat : Int)) from nums_list _] at this
        cases hd : Lib.decDigits n.toNat with
        | nil => exact dec_ne _ hd
        | cons c r =>
          have hc := dec_digits n.toNat c (by rw [hd]; simp)
          rw [hd] at this
          have this : [(c.toNat : Int)] = [45] := this
          simp at this
          omega
      rw [e, Bool.and_false]
      exact hl
  rw [decide_eq_true (by omega)]; rfl
theorem nuB_eq {s : ByteArray} (h : nuB s = true) : s = itoaS (atoV s) := by
  unfold nuB at h
  simp only [Bool.and_eq_true] at h
  exact (sEq_iff.1 h.2).symm
end Go.Proofs.YtkgbphheppfnaaaDoor

set_option maxRecDepth 100000
set_option linter.unusedSimpArgs false
set_option linter.unusedVariables false
namespace Go.Proofs.YtkgbphheppfnaaaDoor
open Go.Rx
def u8L (l : List Int) : List UInt8 := l.map fun n => UInt8.ofNat n.toNat
theorem bytesOf_toB (l : List Int) : bytesOf l = toB (u8L l) := rfl
theorem u8L_app (a b : List Int) : u8L (a ++ b) = u8L a ++ u8L b := by simp [u8L]
theorem u8L_nums (s : ByteArray) : u8L (numsOf s) = s.data.toList := by
  have := congrArg (fun s => s.data.toList) (bytesOf_nums s)
  exact this
def numU (n : Int) : List UInt8 := Lib.itoa n
theorem u8L_ito (n : Int) : u8L (itoL n) = numU n := u8L_nums _
def hexU (c : Ck) : List UInt8 := u8L (ckT c)
def clkU : List UInt8 := [99, 108, 111, 99, 107]
def domU : List UInt8 := [100, 111, 109, 97, 105, 110]
def priU : List UInt8 := [112, 114, 105, 111, 114, 105, 116, 121]
def claU : List UInt8 := [99, 108, 97, 115, 115]
def accU : List UInt8 := [97, 99, 99, 117, 114, 97, 99, 121]
def varU : List UInt8 := [118, 97, 114, 105, 97, 110, 99, 101]
def ppbU : List UInt8 := [112, 112, 98]
def slvU : List UInt8 := [115, 108, 97, 118, 101]
def prtU : List UInt8 := [112, 111, 114, 116]
theorem clk_W : clkW = toB clkU := rfl
theorem dom_W : domW = toB domU := rfl
theorem pri_W : priW = toB priU := rfl
theorem cla_W : claW = toB claU := rfl
theorem acc_W : accW = toB accU := rfl
theorem var_W : varW = toB varU := rfl
theorem ppb_W : ppbW = toB ppbU := rfl
theorem slv_W : slvW = toB slvU := rfl
theorem prt_W : prtW = toB prtU := rfl
def nrow (w : List UInt8) (xs : List Int) : List (List UInt8) := w :: xs.map numU
def poU (x : Pot) : List (List UInt8) := nrow prtU (potW x)
def cfH (c : Cfh) : List (List (List UInt8)) := [[clkU, hexU c.id], nrow domU [c.dom], nrow priU [c.p1, c.p2], nrow claU [c.q.cl], nrow accU [c.q.ac], nrow varU [c.q.va], nrow ppbU [c.ppb]]
def cfS7 (c : Cfh) : List (List (List UInt8)) := bif c.sl then [nrow slvU []] else []
/-- The words of a configuration's lines. -/
def cfR (c : Cfh) (ps : List Pot) : List (List (List UInt8)) := cfH c ++ (cfS7 c ++ ps.map poU)
def txR (R : List (List (List UInt8))) : List UInt8 := txtU (R.map (joinU 32))
theorem txR_app (a b : List (List (List UInt8))) : txR (a ++ b) = txR a ++ txR b := by simp [txR, txt_app]
theorem txR_cons (a : List (List UInt8)) (b : List (List (List UInt8))) : txR (a :: b) = joinU 32 a ++ 10 :: txR b := by simp [txR, txt_cons]
theorem join_row : ∀ (w : List UInt8) (xs : List Int), joinU 32 (nrow w xs) = w ++ u8L (lineW xs)
  | w, [] => by simp [nrow, joinU, lineW, u8L]
  | w, x :: xs => by
    have ih := join_row (numU x) xs
    show w ++ 32 :: joinU 32 (nrow (numU x) xs) = _
    rw [ih, lineW, u8L_app]
    show _ = w ++ ((32 :: u8L (itoL x)) ++ u8L (lineW xs))
    rw [u8L_ito]; simp
theorem row_tx (w : List Int) (xs : List Int) : u8L (w ++ (lineW xs ++ [10])) = joinU 32 (nrow (u8L w) xs) ++ [10] := by
  rw [join_row, u8L_app, u8L_app]
  simp only [List.append_assoc]; rfl
theorem prPs_tx : ∀ ps : List Pot, u8L (prPs ps) = txR (ps.map poU)
  | [] => rfl
  | x :: ps => by
    rw [List.map_cons, txR_cons, ← prPs_tx ps]
    show u8L (prP x ++ prPs ps) = joinU 32 (nrow prtU (potW x)) ++ 10 :: u8L (prPs ps)
    rw [u8L_app, join_row]
    unfold prP
    rw [u8L_app, u8L_app, List.append_assoc, List.append_assoc]; rfl
theorem prH_tx (c : Cfh) : u8L (prH c) = txR (cfH c) := by
  unfold prH cfH
  have e10 (l : List Int) : u8L (10 :: l) = 10 :: u8L l := rfl
  have en : u8L [] = [] := rfl
  have e : txR [] = [] := rfl
  have r (w : List Int) (xs : List Int) : joinU 32 (nrow (u8L w) xs) = u8L w ++ u8L (lineW xs) := join_row _ _
  have r1 : joinU 32 (nrow domU [c.dom]) = _ := r cDomain [c.dom]
  have r2 : joinU 32 (nrow priU [c.p1, c.p2]) = _ := r cPriority [c.p1, c.p2]
  have r3 : joinU 32 (nrow claU [c.q.cl]) = _ := r cClass [c.q.cl]
  have r4 : joinU 32 (nrow accU [c.q.ac]) = _ := r cAccuracy [c.q.ac]
  have r5 : joinU 32 (nrow varU [c.q.va]) = _ := r cVariance [c.q.va]
  have r6 : joinU 32 (nrow ppbU [c.ppb]) = _ := r cPpb [c.ppb]
  have r0 : joinU 32 [clkU, hexU c.id] = u8L cClock ++ u8L (ckT c.id) := rfl
  simp only [u8L_app, txR_cons, e, e10, en, r0, r1, r2, r3, r4, r5, r6, List.append_assoc, List.cons_append, List.nil_append]
theorem prS_tx (c : Cfh) : u8L (prS c) = txR (cfS7 c) := by
  unfold prS cfS7
  cases c.sl with
  | true => rfl
  | false => rfl
theorem prL_tx (c : Cfh) (ps : List Pot) : bytesOf (prL c ps) = toB (txR (cfR c ps)) := by
  rw [bytesOf_toB]
  refine congrArg toB ?_
  unfold prL cfR
  rw [u8L_app, u8L_app, prPs_tx, prH_tx, prS_tx, txR_app, txR_app, List.append_assoc]
/-! Words without blanks and ends. -/
def okW (w : List UInt8) : Prop := (32 : UInt8) ∉ w ∧ (10 : UInt8) ∉ w
def okR (R : List (List (List UInt8))) : Prop := ∀ r ∈ R, r ≠ [] ∧ ∀ w ∈ r, okW w
instance (w : List UInt8) : Decidable (okW w) := by unfold okW; infer_instance
theorem okW_num (n : Int) : okW (numU n) := by
  refine ⟨fun h => ?_, fun h => ?_⟩
  · have := itoa_bytes n _ h
    have e : (32 : UInt8).toNat = 32 := rfl
    omega
  · have := itoa_bytes n _ h
    have e : (10 : UInt8).toNat = 10 := rfl
    omega
theorem hexd_rng {n : Int} (h0 : 0 ≤ n) (h1 : n < 16) : (48 ≤ hexd n ∧ hexd n ≤ 57) ∨ (97 ≤ hexd n ∧ hexd n ≤ 102) := by
  unfold hexd; split <;> omega
theorem hexd_V {n : Int} (h0 : 0 ≤ n) (h1 : n < 16) : hexV (hexd n) = n := by
  unfold hexd
  split
  · rw [hexV_d (by omega)]; omega
  · rw [hexV_h (by omega)]; omega
theorem hexV_d2 {b : Int} (h : 0 ≤ hexV b) : hexd (hexV b) = b := by
  unfold hexV at h ⊢
  split
  · unfold hexd; rw [if_pos (by omega)]; omega
  · split
    · unfold hexd; rw [if_neg (by omega)]; omega
    · rename_i h1 h2
      rw [if_neg h1, if_neg h2] at h; omega
theorem hex2_rng {n : Int} (h : 0 ≤ n ∧ n ≤ 255) : ∀ x ∈ hex2 n, (48 ≤ x ∧ x ≤ 57) ∨ (97 ≤ x ∧ x ≤ 102) := by
  intro x hx
  rcases List.mem_cons.1 hx with rfl | hx
  · exact hexd_rng (by omega) (by omega)
  · rw [List.mem_singleton.1 hx]
    exact hexd_rng (by omega) (by omega)
theorem ckT_rng {c : Ck} (h : ckB c = true) : ∀ x ∈ ckT c, (48 ≤ x ∧ x ≤ 57) ∨ (97 ≤ x ∧ x ≤ 102) := by
  obtain ⟨h0, h1, h2, h3, h4, h5, h6, h7⟩ := ckB_iff.1 h
  intro x hx
  simp only [ckT, List.mem_append] at hx
  rcases hx with ((((((hx | hx) | hx) | hx) | hx) | hx) | hx) | hx
  · exact hex2_rng h0 x hx
  · exact hex2_rng h1 x hx
  · exact hex2_rng h2 x hx
  · exact hex2_rng h3 x hx
  · exact hex2_rng h4 x hx
  · exact hex2_rng h5 x hx
  · exact hex2_rng h6 x hx
  · exact hex2_rng h7 x hx
theorem okW_hex {c : Ck} (h : ckB c = true) : okW (hexU c) := by
  have key : ∀ b ∈ hexU c, (48 ≤ b.toNat ∧ b.toNat ≤ 57) ∨ (97 ≤ b.toNat ∧ b.toNat ≤ 102) := by
    intro b hb
    obtain ⟨x, hx, rfl⟩ := List.mem_map.1 hb
    have := ckT_rng h x hx
    rw [UInt8.toNat_ofNat']; omega
  refine ⟨fun h => ?_, fun h => ?_⟩
  · have := key _ h
    have e : (32 : UInt8).toNat = 32 := rfl
    omega
  · have := key _ h
    have e : (10 : UInt8).toNat = 10 := rfl
    omega
theorem okR_row {w : List UInt8} (xs : List Int) (h : okW w) : nrow w xs ≠ [] ∧ ∀ v ∈ nrow w xs, okW v := by
  refine ⟨by simp [nrow], fun v hv => ?_⟩
  rcases List.mem_cons.1 hv with rfl | hv
  · exact h
  · obtain ⟨n, _, rfl⟩ := List.mem_map.1 hv
    exact okW_num n
theorem cfH_ok {c : Cfh} (h : ckB c.id = true) : okR (cfH c) := by
  intro r hr
  simp only [cfH, List.mem_cons, List.not_mem_nil, or_false] at hr
  rcases hr with rfl | rfl | rfl | rfl | rfl | rfl | rfl
  · refine ⟨by simp, fun w hw => ?_⟩
    simp only [List.mem_cons, List.not_mem_nil, or_false] at hw
    rcases hw with rfl | rfl
    · decide
    · exact okW_hex h
  · exact okR_row _ (by decide)
  · exact okR_row _ (by decide)
  · exact okR_row _ (by decide)
  · exact okR_row _ (by decide)
  · exact okR_row _ (by decide)
  · exact okR_row _ (by decide)
theorem cfR_ok {c : Cfh} (h : ckB c.id = true) (ps : List Pot) : okR (cfR c ps) := by
  intro r hr
  rcases List.mem_append.1 hr with hr | hr
  · exact cfH_ok h r hr
  · rcases List.mem_append.1 hr with hr | hr
    · unfold cfS7 at hr
      cases hs : c.sl with
      | true => rw [hs] at hr; rw [List.mem_singleton.1 hr]; exact okR_row _ (by decide)
      | false => rw [hs] at hr; cases hr
    · obtain ⟨x, _, rfl⟩ := List.mem_map.1 hr
      exact okR_row _ (by decide)
theorem okR_line {R : List (List (List UInt8))} (h : okR R) : ∀ l ∈ R.map (joinU 32), (10 : UInt8) ∉ l := by
  intro l hl hb
  obtain ⟨r, hr, rfl⟩ := List.mem_map.1 hl
  rcases mem_join hb with hb | ⟨w, hw, hb⟩
  · exact absurd hb (by decide)
  · exact ((h r hr).2 w hw).2 hb
/-! A text of lines as Parse sees it. -/
theorem tx_parts {R : List (List (List UInt8))} (h : okR R) : parts (toB (txR R)) nlW = (R.map (joinU 32) ++ [[]]).map toB := by
  rw [show nlW = ⟨#[10]⟩ from rfl, parts_cut, toB_data]
  unfold txR
  rw [cut_txt (okR_line h)]
theorem tx_last {R : List (List (List UInt8))} (h : okR R) : sEq (lsW (toB (txR R))) ⟨#[]⟩ = true := by
  unfold lsW
  rw [tx_parts h, sEq_iff, List.length_map, List.length_append]
  simp only [List.map_append, List.length_cons, List.length_nil, List.getD_eq_getElem?_getD]
  rw [List.getElem?_append_right (by simp)]
  simp
  rfl
theorem tx_L {R : List (List (List UInt8))} (h : okR R) : lnL (toB (txR R)) = (R.map (joinU 32) ++ [[]]).map toB := by
  unfold lnL; rw [tx_last h, cond_true, tx_parts h]
theorem tx_N {R : List (List (List UInt8))} (h : okR R) : lnN (toB (txR R)) = R.length := by
  unfold lnN; rw [tx_last h, cond_true, tx_parts h]; simp
theorem tx_wd {R : List (List (List UInt8))} (h : okR R) {k : Int} (hk : 0 ≤ k) : wdB (lnL (toB (txR R))) (lnN (toB (txR R))) k = (R.getD k.toNat []).map toB := by
  rw [tx_L h, tx_N h]
  unfold wdB
  by_cases hl : k ≥ (R.length : Int)
  · rw [decide_eq_true hl, cond_true, List.getD_eq_getElem?_getD, List.getElem?_eq_none (by omega)]; rfl
  · rw [decide_eq_false hl, cond_false]
    have hl' : k.toNat < R.length := by omega
    have e : ((R.map (joinU 32) ++ [[]]).map toB).getD k.toNat .empty = toB (joinU 32 R[k.toNat]) := by
      rw [List.getD_eq_getElem?_getD, List.map_append, List.getElem?_append_left (by simpa using hl')]
      simp [hl']
    rw [e, parts_cut, toB_data, List.getD_eq_getElem?_getD, List.getElem?_eq_getElem hl']
    have hr := h _ (List.getElem_mem hl')
    rw [cut_join hr.1 fun w hw => (hr.2 w hw).1]; rfl
end Go.Proofs.YtkgbphheppfnaaaDoor

set_option maxRecDepth 100000
set_option linter.unusedSimpArgs false
set_option linter.unusedVariables false
namespace Go.Proofs.YtkgbphheppfnaaaDoor
open Go.Rx
def RowsL (L : List ByteArray) (n : Nat) (R : List (List (List UInt8))) : Prop := ∀ k : Int, 0 ≤ k → wdB L n k = (R.getD k.toNat []).map toB
def potG (x : Pot) : Bool := (potW x).all big
def cfgG (c : Cfh) : Bool := ckB c.id && (big c.dom && big c.p1 && big c.p2 && big c.q.cl && big c.q.ac && big c.q.va && big c.ppb)
theorem row_B (w : List UInt8) (xs : List Int) : (nrow w xs).map toB = toB w :: xs.map itoaS := by
  simp only [nrow, List.map_cons, List.map_map]; rfl
theorem tk_row {L : List ByteArray} {n : Nat} {k : Int} {w : List UInt8} {xs : List Int} (h : wdB L n k = (nrow w xs).map toB) (hb : xs.all big = true) :
    tkB L n k (toB w) xs.length = true ∧ ∀ i x, xs[i]? = some x → tkV L n k i = x := by
  rw [row_B] at h
  have hg : ∀ i x, xs[i]? = some x → (wdB L n k).getD (i + 1) .empty = itoaS x := by
    intro i x hx
    rw [h, List.getD_eq_getElem?_getD, List.getElem?_cons_succ, List.getElem?_map, hx]; rfl
  have hbig : ∀ i x, xs[i]? = some x → big x = true := fun i x hx => List.all_eq_true.1 hb x (List.mem_of_getElem? hx)
  constructor
  · unfold tkB
    rw [decide_eq_true (show (wdB L n k).length = xs.length + 1 by rw [h]; simp), sEq_iff.2 (show (wdB L n k).getD 0 .empty = toB w by rw [h]; rfl), Bool.true_and, Bool.true_and, List.all_eq_true]
    intro i hi
    have hi := List.mem_range.1 hi
    rw [hg i _ (List.getElem?_eq_getElem hi)]
    exact (nuB_ito (hbig i _ (List.getElem?_eq_getElem hi))).1
  · intro i x hx
    unfold tkV
    rw [hg i x hx]
    exact (nuB_ito (hbig i x hx)).2
theorem tk_other {L : List ByteArray} {n : Nat} {k : Int} {r : List (List UInt8)} {w : List UInt8} {m : Nat} (h : wdB L n k = r.map toB) (hne : r.headD [] ≠ w) : tkB L n k (toB w) m = false := by
  unfold tkB
  have e : (wdB L n k).getD 0 .empty = toB (r.headD []) := by rw [h]; cases r <;> rfl
  rw [e]
  have : sEq (toB (r.headD [])) (toB w) = false := Bool.eq_false_iff.2 fun e => hne (toB_inj (sEq_iff.1 e))
  rw [this]; simp
theorem tk_len {L : List ByteArray} {n : Nat} {k : Int} {r : List (List UInt8)} {w : ByteArray} {m : Nat} (h : wdB L n k = r.map toB) (hne : r.length ≠ m + 1) : tkB L n k w m = false := by
  unfold tkB
  rw [decide_eq_false (show ¬ (wdB L n k).length = m + 1 by rw [h]; simpa using hne)]; rfl
theorem tk_conv {L : List ByteArray} {n : Nat} {k : Int} {w : List UInt8} {m : Nat} (h : tkB L n k (toB w) m = true) : wdB L n k = (nrow w ((List.range m).map (tkV L n k))).map toB := by
  unfold tkB at h
  simp only [Bool.and_eq_true, decide_eq_true_eq, List.all_eq_true] at h
  obtain ⟨hl, hw, ha⟩ := h
  have hw := sEq_iff.1 hw
  rw [row_B, List.map_map]
  cases hd : wdB L n k with
  | nil => rw [hd] at hl; cases hl
  | cons x xs =>
    rw [hd] at hl hw
    have hw : x = toB w := hw
    congr 1
    have hl : xs.length = m := by simpa using hl
    apply List.ext_getElem?
    intro i
    by_cases hi : i < m
    · have := nuB_eq (ha i (List.mem_range.2 hi))
      have e : (wdB L n k).getD (i + 1) .empty = xs[i] := by rw [hd, List.getD_eq_getElem?_getD, List.getElem?_cons_succ, List.getElem?_eq_getElem (by omega)]; rfl
      rw [e] at this
      rw [List.getElem?_eq_getElem (by omega), List.getElem?_map, List.getElem?_range hi]
      show some xs[i] = some (itoaS (tkV L n k i))
      rw [this]; unfold tkV; rw [e, ← this]
    · rw [List.getElem?_eq_none (by omega), List.getElem?_map, List.getElem?_eq_none (by simpa using hi)]; rfl
theorem all2 {a b : Int} (ha : big a = true) (hb : big b = true) : [a, b].all big = true := by simp [ha, hb]
theorem all1 {a : Int} (ha : big a = true) : [a].all big = true := by simp [ha]
theorem pk_row {L : List ByteArray} {n : Nat} {k : Int} {x : Pot} (h : wdB L n k = (poU x).map toB) (hb : potG x = true) : pkB L n k = true ∧ pkV L n k = x := by
  obtain ⟨h1, h2⟩ := tk_row (w := prtU) h hb
  refine ⟨h1, ?_⟩
  unfold pkV
  rw [h2 0 _ rfl, h2 1 _ rfl, h2 2 _ rfl, h2 3 _ rfl, h2 4 _ rfl, h2 5 _ rfl]
theorem pk_none {L : List ByteArray} {n : Nat} {k : Int} (h : wdB L n k = []) : pkB L n k = false := tk_len (r := []) h (by decide)
theorem poQ_run {L : List ByteArray} {n : Nat} : ∀ (ps : List Pot) (f : Nat) (k : Int), (∀ (i : Nat) x, ps[i]? = some x → wdB L n (k + i) = (poU x).map toB) → wdB L n (k + ps.length) = [] → ps.all potG = true → ps.length < f → poQ L n f k = ps
  | ps, 0, k, _, _, _, hf => by omega
  | [], f + 1, k, _, h0, _, _ => by
    unfold poQ
    rw [pk_none (by simpa using h0)]; rfl
  | x :: xs, f + 1, k, h, h0, hb, hf => by
    unfold poQ
    simp only [List.all_cons, Bool.and_eq_true] at hb
    obtain ⟨h1, h2⟩ := pk_row (by simpa using h 0 x rfl) hb.1
    rw [h1, h2, cond_true]
    congr 1
    refine poQ_run xs f (k + 1) (fun i y hy => ?_) ?_ hb.2 (by simpa using hf)
    · have := h (i + 1) y (by simpa using hy)
      rw [show k + 1 + (i : Int) = k + ((i + 1 : Nat) : Int) by omega]; exact this
    · rw [show k + 1 + (xs.length : Int) = k + ((xs.length + 1 : Nat) : Int) by omega]; exact h0
theorem poQ_conv {L : List ByteArray} {n : Nat} : ∀ (f : Nat) (k : Int) (i : Nat) (x : Pot), (poQ L n f k)[i]? = some x → wdB L n (k + i) = (poU x).map toB
  | 0, k, i, x, h => by simp [poQ] at h
  | f + 1, k, i, x, h => by
    unfold poQ at h
    cases hp : pkB L n k with
    | false => rw [hp] at h; simp at h
    | true =>
      rw [hp, cond_true] at h
      cases i with
      | zero =>
        simp only [List.getElem?_cons_zero, Option.some.injEq] at h
        subst h
        have := tk_conv (w := prtU) hp
        rw [show k + ((0 : Nat) : Int) = k by omega]; exact this
      | succ i =>
        simp only [List.getElem?_cons_succ] at h
        have := poQ_conv f (k + 1) i x h
        rw [show k + ((i + 1 : Nat) : Int) = k + 1 + (i : Int) by omega]; exact this
theorem rd_hex {c : Ck} (h : ckB c = true) : rdOK (toB (hexU c)) = true ∧ rdC (toB (hexU c)) = c := by
  have hr := ckT_rng h
  have e : numsOf (toB (hexU c)) = ckT c := nums_bytesOf fun n hn => by have := hr n hn; omega
  have ha : ∀ i : Nat, i < 16 → sAt (toB (hexU c)) i = (ckT c).getD i 0 := by
    intro i hi
    have e2 : (numsOf (toB (hexU c)))[i]? = (ckT c)[i]? := by rw [e]
    unfold numsOf at e2
    rw [List.getElem?_map] at e2
    have hl : (ckT c).length = 16 := rfl
    rw [List.getElem?_eq_getElem (l := ckT c) (by omega)] at e2
    obtain ⟨b, hb, hb2⟩ := Option.map_eq_some_iff.1 e2
    unfold sAt
    rw [List.getD_eq_getElem?_getD, hb, List.getD_eq_getElem?_getD, List.getElem?_eq_getElem (l := ckT c) (by omega)]
    exact hb2
  obtain ⟨h0, h1, h2, h3, h4, h5, h6, h7⟩ := ckB_iff.1 h
  have v : ∀ {x : Int}, 0 ≤ x ∧ x ≤ 255 → hexV (hexd (x / 16)) = x / 16 ∧ hexV (hexd (x % 16)) = x % 16 := fun hx => ⟨hexd_V (by omega) (by omega), hexd_V (by omega) (by omega)⟩
  have n : ∀ {x : Int}, 0 ≤ x ∧ x ≤ 255 → (!decide (x / 16 < 0)) = true ∧ (!decide (x % 16 < 0)) = true := fun {x} hx => ⟨by rw [decide_eq_false (by omega)]; rfl, by rw [decide_eq_false (by omega)]; rfl⟩
  have a0 : sAt (toB (hexU c)) 0 = hexd (c.b0 / 16) := ha 0 (by decide)
  have a1 : sAt (toB (hexU c)) 1 = hexd (c.b0 % 16) := ha 1 (by decide)
  have a2 : sAt (toB (hexU c)) 2 = hexd (c.b1 / 16) := ha 2 (by decide)
  have a3 : sAt (toB (hexU c)) 3 = hexd (c.b1 % 16) := ha 3 (by decide)
  have a4 : sAt (toB (hexU c)) 4 = hexd (c.b2 / 16) := ha 4 (by decide)
  have a5 : sAt (toB (hexU c)) 5 = hexd (c.b2 % 16) := ha 5 (by decide)
  have a6 : sAt (toB (hexU c)) 6 = hexd (c.b3 / 16) := ha 6 (by decide)
  have a7 : sAt (toB (hexU c)) 7 = hexd (c.b3 % 16) := ha 7 (by decide)
  have a8 : sAt (toB (hexU c)) 8 = hexd (c.b4 / 16) := ha 8 (by decide)
  have a9 : sAt (toB (hexU c)) 9 = hexd (c.b4 % 16) := ha 9 (by decide)
  have a10 : sAt (toB (hexU c)) 10 = hexd (c.b5 / 16) := ha 10 (by decide)
  have a11 : sAt (toB (hexU c)) 11 = hexd (c.b5 % 16) := ha 11 (by decide)
  have a12 : sAt (toB (hexU c)) 12 = hexd (c.b6 / 16) := ha 12 (by decide)
  have a13 : sAt (toB (hexU c)) 13 = hexd (c.b6 % 16) := ha 13 (by decide)
  have a14 : sAt (toB (hexU c)) 14 = hexd (c.b7 / 16) := ha 14 (by decide)
  have a15 : sAt (toB (hexU c)) 15 = hexd (c.b7 % 16) := ha 15 (by decide)
  constructor
  · unfold rdOK
    rw [a0, a1, a2, a3, a4, a5, a6, a7, a8, a9, a10, a11, a12, a13, a14, a15]
    rw [(v h0).1, (v h0).2, (v h1).1, (v h1).2, (v h2).1, (v h2).2, (v h3).1, (v h3).2, (v h4).1, (v h4).2, (v h5).1, (v h5).2, (v h6).1, (v h6).2, (v h7).1, (v h7).2]
    rw [(n h0).1, (n h0).2, (n h1).1, (n h1).2, (n h2).1, (n h2).2, (n h3).1, (n h3).2, (n h4).1, (n h4).2, (n h5).1, (n h5).2, (n h6).1, (n h6).2, (n h7).1, (n h7).2]; rfl
  · unfold rdC
    rw [a0, a1, a2, a3, a4, a5, a6, a7, a8, a9, a10, a11, a12, a13, a14, a15]
    rw [(v h0).1, (v h0).2, (v h1).1, (v h1).2, (v h2).1, (v h2).2, (v h3).1, (v h3).2, (v h4).1, (v h4).2, (v h5).1, (v h5).2, (v h6).1, (v h6).2, (v h7).1, (v h7).2]
    have z : ∀ x : Int, x / 16 * 16 + x % 16 = x := fun x => by omega
    simp only [z]
theorem hex_rd {s : ByteArray} (hs : s.size = 16) (h : rdOK s = true) : s = toB (hexU (rdC s)) ∧ ckB (rdC s) = true := by
  unfold rdOK at h
  simp only [Bool.and_eq_true, Bool.not_eq_true', decide_eq_false_iff_not, Int.not_lt] at h
  obtain ⟨h0, h1, h2, h3, h4, h5, h6, h7, h8, h9, h10, h11, h12, h13, h14, h15⟩ := h
  have lt := hexV_lt
  have p : ∀ {a b : Int}, 0 ≤ hexV a → 0 ≤ hexV b → hex2 (hexV a * 16 + hexV b) = [a, b] := by
    intro a b ha hb
    have la := lt a
    have lb := lt b
    unfold hex2
    rw [show (hexV a * 16 + hexV b) / 16 = hexV a by omega, show (hexV a * 16 + hexV b) % 16 = hexV b by omega, hexV_d2 ha, hexV_d2 hb]
  have q : ∀ {a b : Int}, 0 ≤ hexV a → 0 ≤ hexV b → 0 ≤ hexV a * 16 + hexV b ∧ hexV a * 16 + hexV b ≤ 255 := by
    intro a b ha hb
    have la := lt a
    have lb := lt b
    omega
  constructor
  · have e : ckT (rdC s) = numsOf s := by
      unfold ckT rdC
      simp only [p h0 h1, p h2 h3, p h4 h5, p h6 h7, p h8 h9, p h10 h11, p h12 h13, p h14 h15]
      have hl : s.data.toList.length = 16 := by simpa using hs
      unfold sAt numsOf
      generalize s.data.toList = l at hl ⊢
      match l, hl with
      | [a, b, c, d, e, f, g, h, i, j, k, l, m, n, o, p], _ => rfl
    unfold hexU
    rw [e, ← bytesOf_toB, bytesOf_nums]
  · exact ckB_iff.2 ⟨q h0 h1, q h2 h3, q h4 h5, q h6 h7, q h8 h9, q h10 h11, q h12 h13, q h14 h15⟩
end Go.Proofs.YtkgbphheppfnaaaDoor

set_option maxRecDepth 100000
set_option linter.unusedSimpArgs false
set_option linter.unusedVariables false
namespace Go.Proofs.YtkgbphheppfnaaaDoor
open Go.Rx
/-- The first lines are the configuration's: one after another. -/
def goK (c : Cfh) (L : List ByteArray) (n : Nat) : Nat → Prop
  | 0 => True
  | k + 1 => goK c L n k ∧ wdB L n (k : Int) = ((cfH c).getD k []).map toB
theorem go0 {c : Cfh} (hc : cfgG c = true) {L : List ByteArray} {n : Nat} (h : wdB L n 0 = [clkU, hexU c.id].map toB) : klB L n 0 = true ∧ kiB L n 0 = true ∧ kiC L n 0 = c.id := by
  simp only [cfgG, Bool.and_eq_true] at hc
  obtain ⟨h1, h2⟩ := rd_hex hc.1
  unfold klB kiB kiC
  rw [h]
  have e : ([clkU, hexU c.id].map toB).getD 1 .empty = toB (hexU c.id) := rfl
  have e0 : ([clkU, hexU c.id].map toB).getD 0 .empty = toB clkU := rfl
  rw [e, e0, clk_W, sEq_iff.2 rfl, h1]
  refine ⟨rfl, ?_, h2⟩
  rw [toB_size]
  rfl
theorem kl_other {L : List ByteArray} {n : Nat} {r : List (List UInt8)} (h : wdB L n 0 = r.map toB) (hne : r.headD [] ≠ clkU) : klB L n 0 = false := by
  unfold klB
  have e : (wdB L n 0).getD 0 .empty = toB (r.headD []) := by rw [h]; cases r <;> rfl
  rw [e, clk_W]
  have : sEq (toB (r.headD [])) (toB clkU) = false := Bool.eq_false_iff.2 fun e => hne (toB_inj (sEq_iff.1 e))
  rw [this]; simp
section
variable {c : Cfh} (hc : cfgG c = true) {L : List ByteArray} {n : Nat}
include hc
theorem go1 (h : wdB L n 1 = (nrow domU [c.dom]).map toB) : tkB L n 1 domW 1 = true ∧ tkV L n 1 0 = c.dom := by
  simp only [cfgG, Bool.and_eq_true] at hc
  obtain ⟨a, b⟩ := tk_row h (by simp [hc])
  exact ⟨a, b 0 _ rfl⟩
theorem go2 (h : wdB L n 2 = (nrow priU [c.p1, c.p2]).map toB) : tkB L n 2 priW 2 = true ∧ tkV L n 2 0 = c.p1 ∧ tkV L n 2 1 = c.p2 := by
  simp only [cfgG, Bool.and_eq_true] at hc
  obtain ⟨a, b⟩ := tk_row h (by simp [hc])
  exact ⟨a, b 0 _ rfl, b 1 _ rfl⟩
theorem go3 (h : wdB L n 3 = (nrow claU [c.q.cl]).map toB) : tkB L n 3 claW 1 = true ∧ tkV L n 3 0 = c.q.cl := by
  simp only [cfgG, Bool.and_eq_true] at hc
  obtain ⟨a, b⟩ := tk_row h (by simp [hc])
  exact ⟨a, b 0 _ rfl⟩
theorem go4 (h : wdB L n 4 = (nrow accU [c.q.ac]).map toB) : tkB L n 4 accW 1 = true ∧ tkV L n 4 0 = c.q.ac := by
  simp only [cfgG, Bool.and_eq_true] at hc
  obtain ⟨a, b⟩ := tk_row h (by simp [hc])
  exact ⟨a, b 0 _ rfl⟩
theorem go5 (h : wdB L n 5 = (nrow varU [c.q.va]).map toB) : tkB L n 5 varW 1 = true ∧ tkV L n 5 0 = c.q.va := by
  simp only [cfgG, Bool.and_eq_true] at hc
  obtain ⟨a, b⟩ := tk_row h (by simp [hc])
  exact ⟨a, b 0 _ rfl⟩
theorem go6 (h : wdB L n 6 = (nrow ppbU [c.ppb]).map toB) : tkB L n 6 ppbW 1 = true ∧ tkV L n 6 0 = c.ppb := by
  simp only [cfgG, Bool.and_eq_true] at hc
  obtain ⟨a, b⟩ := tk_row h (by simp [hc])
  exact ⟨a, b 0 _ rfl⟩
end
/-- The whole of a configuration's text is read. -/
theorem al_good {c : Cfh} (hc : cfgG c = true) {ps : List Pot} (hp : ps.all potG = true) (h0 : ps ≠ []) {L : List ByteArray} {n : Nat} (hR : RowsL L n (cfR c ps)) (hn : n = (cfR c ps).length) :
    alB L n = true ∧ alAt L n = n ∧ alC L n = c ∧ alP L n = ps := by
  obtain ⟨a0, b0, c0⟩ := go0 hc (hR 0 (by decide))
  obtain ⟨a1, b1⟩ := go1 hc (hR 1 (by decide))
  obtain ⟨a2, b2, c2⟩ := go2 hc (hR 2 (by decide))
  obtain ⟨a3, b3⟩ := go3 hc (hR 3 (by decide))
  obtain ⟨a4, b4⟩ := go4 hc (hR 4 (by decide))
  obtain ⟨a5, b5⟩ := go5 hc (hR 5 (by decide))
  obtain ⟨a6, b6⟩ := go6 hc (hR 6 (by decide))
  unfold alB alAt alC alP
  rw [a0, b0, c0, a1, b1, a2, b2, c2, a3, b3, a4, b4, a5, b5, a6, b6]
  simp only [cond_true, Bool.true_and]
  have hpo : ∀ (m : Nat), cfR c ps = (cfR c ps).take m ++ ps.map poU → ((cfR c ps).take m).length = m → poQ L n (n + 2) m = ps ∧ n = m + ps.length := by
    intro m hm hl
    have hN : n = m + ps.length := by
      rw [hn]
      have := congrArg List.length hm
      rw [List.length_append, hl, List.length_map] at this; exact this
    refine ⟨poQ_run ps (n + 2) m (fun i x hx => ?_) ?_ hp (by omega), hN⟩
    · rw [hR _ (by omega), show ((m : Int) + (i : Int)).toNat = m + i by omega, hm, List.getD_eq_getElem?_getD, List.getElem?_append_right (by omega), hl, show m + i - m = i by omega, List.getElem?_map, hx]; rfl
    · rw [hR _ (by omega), show ((m : Int) + (ps.length : Int)).toNat = m + ps.length by omega, List.getD_eq_getElem?_getD, List.getElem?_eq_none (by omega)]; rfl
  cases hs : c.sl with
  | true =>
    have hr : wdB L n 7 = (nrow slvU []).map toB := by
      rw [hR 7 (by decide)]
      show ((cfR c ps).getD 7 []).map toB = _
      unfold cfR cfS7; rw [hs]; rfl
    have h7 : tkB L n 7 slvW 0 = true := (tk_row hr (by rfl)).1
    obtain ⟨p1, p2⟩ := hpo 8 (by unfold cfR cfS7; rw [hs]; rfl) (by unfold cfR cfS7; rw [hs]; rfl)
    have p1 : poQ L n (n + 2) 8 = ps := p1
    rw [h7, p1]
    simp only [cond_true]
    refine ⟨?_, by omega, by cases c; cases hs; rfl, trivial⟩
    cases ps with
    | nil => exact absurd rfl h0
    | cons x xs =>
      simp only [List.all_cons, Bool.and_eq_true] at hp
      refine (pk_row (x := x) ?_ hp.1).1
      rw [hR 8 (by decide)]
      show ((cfR c (x :: xs)).getD 8 []).map toB = _
      unfold cfR cfS7; rw [hs]; rfl
  | false =>
    cases ps with
    | nil => exact absurd rfl h0
    | cons x xs =>
      have hr : wdB L n 7 = (poU x).map toB := by
        rw [hR 7 (by decide)]
        show ((cfR c (x :: xs)).getD 7 []).map toB = _
        unfold cfR cfS7; rw [hs]; rfl
      have h7 : tkB L n 7 slvW 0 = false := tk_other (w := slvU) hr (show prtU ≠ slvU by decide)
      obtain ⟨p1, p2⟩ := hpo 7 (by unfold cfR cfS7; rw [hs]; rfl) (by unfold cfR cfS7; rw [hs]; rfl)
      have p1 : poQ L n (n + 2) 7 = x :: xs := p1
      rw [h7, p1]
      simp only [cond_false]
      simp only [List.all_cons, Bool.and_eq_true] at hp
      refine ⟨(pk_row hr hp.1).1, by omega, by cases c; cases hs; rfl, trivial⟩
/-- A text of which the k-th line is another one. -/
theorem al_bad {c : Cfh} (hc : cfgG c = true) {L : List ByteArray} {n : Nat} {R : List (List (List UInt8))} (hR : RowsL L n R) (k : Nat) (hk : k ≤ 7) (hs : ∀ j, j < k → R.getD j [] = (cfH c).getD j [])
    (hb : k ≤ 6 → (R.getD k []).headD [] ≠ ((cfH c).getD k []).headD []) (h7 : k = 7 → (R.getD 7 []).headD [] ≠ slvU ∧ (R.getD 7 []).headD [] ≠ prtU) : alB L n = false ∧ alAt L n = k := by
  have g : ∀ j : Nat, j < k → wdB L n (j : Int) = ((cfH c).getD j []).map toB := fun j hj => by
    rw [hR _ (by omega), Int.toNat_natCast, hs j hj]
  have b : wdB L n (k : Int) = (R.getD k []).map toB := hR _ (by omega)
  have t0 : 0 < k → klB L n 0 = true ∧ kiB L n 0 = true := fun h => ⟨(go0 hc (g 0 h)).1, (go0 hc (g 0 h)).2.1⟩
  have t1 : 1 < k → tkB L n 1 domW 1 = true := fun h => (go1 hc (g 1 h)).1
  have t2 : 2 < k → tkB L n 2 priW 2 = true := fun h => (go2 hc (g 2 h)).1
  have t3 : 3 < k → tkB L n 3 claW 1 = true := fun h => (go3 hc (g 3 h)).1
  have t4 : 4 < k → tkB L n 4 accW 1 = true := fun h => (go4 hc (g 4 h)).1
  have t5 : 5 < k → tkB L n 5 varW 1 = true := fun h => (go5 hc (g 5 h)).1
  have t6 : 6 < k → tkB L n 6 ppbW 1 = true := fun h => (go6 hc (g 6 h)).1
  unfold alB alAt
  match k, hk with
  | 0, _ =>
    rw [kl_other b (hb (by decide))]; exact ⟨rfl, rfl⟩
  | 1, _ =>
    have f : tkB L n 1 domW 1 = false := tk_other (w := domU) b (hb (by decide))
    rw [(t0 (by decide)).1, (t0 (by decide)).2, f]; exact ⟨rfl, rfl⟩
  | 2, _ =>
    have f : tkB L n 2 priW 2 = false := tk_other (w := priU) b (hb (by decide))
    rw [(t0 (by decide)).1, (t0 (by decide)).2, t1 (by decide), f]; exact ⟨rfl, rfl⟩
  | 3, _ =>
    have f : tkB L n 3 claW 1 = false := tk_other (w := claU) b (hb (by decide))
    rw [(t0 (by decide)).1, (t0 (by decide)).2, t1 (by decide), t2 (by decide), f]; exact ⟨rfl, rfl⟩
  | 4, _ =>
    have f : tkB L n 4 accW 1 = false := tk_other (w := accU) b (hb (by decide))
    rw [(t0 (by decide)).1, (t0 (by decide)).2, t1 (by decide), t2 (by decide), t3 (by decide), f]; exact ⟨rfl, rfl⟩
  | 5, _ =>
    have f : tkB L n 5 varW 1 = false := tk_other (w := varU) b (hb (by decide))
    rw [(t0 (by decide)).1, (t0 (by decide)).2, t1 (by decide), t2 (by decide), t3 (by decide), t4 (by decide), f]; exact ⟨rfl, rfl⟩
  | 6, _ =>
    have f : tkB L n 6 ppbW 1 = false := tk_other (w := ppbU) b (hb (by decide))
    rw [(t0 (by decide)).1, (t0 (by decide)).2, t1 (by decide), t2 (by decide), t3 (by decide), t4 (by decide), t5 (by decide), f]; exact ⟨rfl, rfl⟩
  | 7, _ =>
    have f : tkB L n 7 slvW 0 = false := tk_other (w := slvU) b (h7 rfl).1
    have f2 : pkB L n 7 = false := tk_other (w := prtU) b (h7 rfl).2
    rw [(t0 (by decide)).1, (t0 (by decide)).2, t1 (by decide), t2 (by decide), t3 (by decide), t4 (by decide), t5 (by decide), t6 (by decide), f, f2, poQ_nil f2]; exact ⟨rfl, rfl⟩
/-- What was read are the lines of what was read. -/
theorem al_conv {L : List ByteArray} {n : Nat} (hB : alB L n = true) (hA : alAt L n = n) : ckB (alC L n).id = true ∧ n = (cfR (alC L n) (alP L n)).length ∧ ∀ k : Nat, k < n → wdB L n (k : Int) = ((cfR (alC L n) (alP L n)).getD k []).map toB := by
  unfold alB at hB
  simp only [Bool.and_eq_true] at hB
  obtain ⟨a0, b0, a1, a2, a3, a4, a5, a6, a7⟩ := hB
  unfold alAt at hA
  rw [a0, b0, a1, a2, a3, a4, a5, a6] at hA
  simp only [cond_true] at hA
  have hi : ckB (alC L n).id = true ∧ wdB L n 0 = [clkU, hexU (alC L n).id].map toB := by
    unfold kiB at b0
    unfold klB at a0
    simp only [Bool.and_eq_true, decide_eq_true_eq] at a0 b0
    obtain ⟨h1, h2⟩ := hex_rd (by omega) b0.2
    refine ⟨h2, ?_⟩
    show wdB L n 0 = [toB clkU, toB (hexU (rdC ((wdB L n 0).getD 1 .empty)))]
    rw [← h1]
    have hw := sEq_iff.1 a0.2
    have hl := a0.1
    match hd : wdB L n 0, hl with
    | [x, y], _ =>
      rw [hd] at hw
      have hw : x = clkW := hw
      rw [hw]; rfl
  have hq : ∀ (m : Nat), poQ L n (n + 2) m = alP L n → cfR (alC L n) (alP L n) = (cfR (alC L n) (alP L n)).take m ++ (alP L n).map poU → ((cfR (alC L n) (alP L n)).take m).length = m → (n : Int) = m + ((alP L n).length : Int) →
      (∀ j : Nat, j < m → wdB L n (j : Int) = ((cfR (alC L n) (alP L n)).getD j []).map toB) → n = (cfR (alC L n) (alP L n)).length ∧ ∀ k : Nat, k < n → wdB L n (k : Int) = ((cfR (alC L n) (alP L n)).getD k []).map toB := by
    intro m hp hm hl hN hj
    have hlen : (cfR (alC L n) (alP L n)).length = m + (alP L n).length := by
      have := congrArg List.length hm
      rw [List.length_append, hl, List.length_map] at this; exact this
    refine ⟨by omega, fun k hk => ?_⟩
    by_cases hkm : k < m
    · exact hj k hkm
    · have hx : k - m < (alP L n).length := by omega
      have := poQ_conv (L := L) (n := n) (n + 2) m (k - m) _ (by rw [hp]; exact List.getElem?_eq_getElem hx)
      rw [show (m : Int) + ((k - m : Nat) : Int) = (k : Int) by omega] at this
      rw [this, hm, List.getD_eq_getElem?_getD, List.getElem?_append_right (by omega), hl, List.getElem?_map, List.getElem?_eq_getElem hx]; rfl
  have r1 : wdB L n 1 = (nrow domU [tkV L n 1 0]).map toB := tk_conv (w := domU) a1
  have r2 : wdB L n 2 = (nrow priU [tkV L n 2 0, tkV L n 2 1]).map toB := tk_conv (w := priU) a2
  have r3 : wdB L n 3 = (nrow claU [tkV L n 3 0]).map toB := tk_conv (w := claU) a3
  have r4 : wdB L n 4 = (nrow accU [tkV L n 4 0]).map toB := tk_conv (w := accU) a4
  have r5 : wdB L n 5 = (nrow varU [tkV L n 5 0]).map toB := tk_conv (w := varU) a5
  have r6 : wdB L n 6 = (nrow ppbU [tkV L n 6 0]).map toB := tk_conv (w := ppbU) a6
  refine ⟨hi.1, ?_⟩
  cases h7 : tkB L n 7 slvW 0 with
  | true =>
    have hs : (alC L n).sl = true := h7
    have r7 : wdB L n 7 = (nrow slvU []).map toB := tk_conv (w := slvU) h7
    have hP : poQ L n (n + 2) 8 = alP L n := by unfold alP; rw [h7]; rfl
    rw [h7, cond_true, hP] at hA
    refine hq 8 hP (by unfold cfR cfS7; rw [hs]; rfl) (by unfold cfR cfS7; rw [hs]; rfl) hA.symm fun j hj => ?_
    have e : cfR (alC L n) (alP L n) = cfH (alC L n) ++ ([nrow slvU []] ++ (alP L n).map poU) := by unfold cfR cfS7; rw [hs]; rfl
    rw [e]
    match j, hj with
    | 0, _ => exact hi.2
    | 1, _ => exact r1
    | 2, _ => exact r2
    | 3, _ => exact r3
    | 4, _ => exact r4
    | 5, _ => exact r5
    | 6, _ => exact r6
    | 7, _ => exact r7
  | false =>
    have hs : (alC L n).sl = false := h7
    have hP : poQ L n (n + 2) 7 = alP L n := by unfold alP; rw [h7]; rfl
    rw [h7, cond_false, hP] at hA
    refine hq 7 hP (by unfold cfR cfS7; rw [hs]; rfl) (by unfold cfR cfS7; rw [hs]; rfl) hA.symm fun j hj => ?_
    have e : cfR (alC L n) (alP L n) = cfH (alC L n) ++ ([] ++ (alP L n).map poU) := by unfold cfR cfS7; rw [hs]; rfl
    rw [e]
    match j, hj with
    | 0, _ => exact hi.2
    | 1, _ => exact r1
    | 2, _ => exact r2
    | 3, _ => exact r3
    | 4, _ => exact r4
    | 5, _ => exact r5
    | 6, _ => exact r6
theorem toB_map_inj {l m : List (List UInt8)} (h : l.map toB = m.map toB) : l = m := by
  have := congrArg (List.map fun s : ByteArray => s.data.toList) h
  simp only [List.map_map] at this
  have e : ∀ l : List (List UInt8), l.map ((fun s : ByteArray => s.data.toList) ∘ toB) = l := fun l => by
    conv => rhs; rw [← List.map_id l]
    exact List.map_congr_left fun x _ => rfl
  rwa [e, e] at this
/-- A text that is read through is the text of what was read. -/
theorem ps_back {s : ByteArray} (h : psA s = true) : ckB (psC s).id = true ∧ s = toB (txR (cfR (psC s) (psP s))) := by
  unfold psA at h
  rw [Bool.and_eq_true, decide_eq_true_eq] at h
  obtain ⟨hi, hn, hw⟩ := al_conv h.1 h.2
  refine ⟨hi, ?_⟩
  show s = toB (txR (cfR (alC (lnL s) (lnN s)) (alP (lnL s) (lnN s))))
  have hok := cfR_ok hi (alP (lnL s) (lnN s))
  generalize cfR (alC (lnL s) (lnN s)) (alP (lnL s) (lnN s)) = R at hn hw hok
  have hLk : ∀ k : Nat, k < lnN s → (lnL s).getD k .empty = toB (joinU 32 (R.getD k [])) := by
    intro k hk
    have e := hw k hk
    unfold wdB at e
    rw [decide_eq_false (show ¬ (k : Int) ≥ (lnN s : Int) by omega), cond_false, parts_cut, Int.toNat_natCast] at e
    have e := toB_map_inj e
    rw [← e, join_cut, toB_of]
  obtain ⟨m, hm⟩ : ∃ m, (parts s nlW).length = m + 1 := ⟨_, parts_len (by decide)⟩
  have hpl : parts s nlW = (cutU 10 s.data.toList).map toB := parts_cut s 10
  have hls : lsW s = (parts s nlW).getD m .empty := by unfold lsW; rw [hm]; rfl
  cases he : sEq (lsW s) ⟨#[]⟩ with
  | true =>
    have eL : lnL s = parts s nlW := by unfold lnL; rw [he]; rfl
    have eN : lnN s = m := by unfold lnN; rw [he, hm]; rfl
    rw [eL, eN] at hLk
    have hcut : cutU 10 s.data.toList = R.map (joinU 32) ++ [[]] := by
      apply toB_map_inj
      rw [← hpl]
      apply List.ext_getElem?
      intro i
      rw [List.map_append, List.map_map]
      have hRl : R.length = m := by omega
      by_cases hi : i < m
      · rw [List.getElem?_append_left (by simp; omega), List.getElem?_map, List.getElem?_eq_getElem (by omega), List.getElem?_eq_getElem (l := R) (by omega)]
        have := hLk i hi
        rw [List.getD_eq_getElem?_getD, List.getElem?_eq_getElem (by omega), List.getD_eq_getElem?_getD, List.getElem?_eq_getElem (l := R) (by omega)] at this
        exact congrArg some this
      · rw [List.getElem?_append_right (by simp; omega), List.length_map]
        by_cases hi2 : i = m
        · rw [hi2, hRl, Nat.sub_self, List.getElem?_eq_getElem (by omega)]
          have := hls
          rw [List.getD_eq_getElem?_getD, List.getElem?_eq_getElem (by omega), sEq_iff.1 he] at this
          exact congrArg some this.symm
        · rw [List.getElem?_eq_none (by omega), List.getElem?_eq_none (by simp; omega)]
    rw [← toB_of s, ← join_cut 10 s.data.toList, hcut, join_txt]; rfl
  | false =>
    exfalso
    have eL : lnL s = (parts s nlW).take m ++ [lsW s ++ nlW] := by unfold lnL; rw [he, hm]; rfl
    have eN : lnN s = m + 1 := by unfold lnN; rw [he, hm]; rfl
    have := hLk m (by omega)
    rw [eL, List.getD_eq_getElem?_getD, List.getElem?_append_right (by simp; omega)] at this
    have hz : m - ((parts s nlW).take m).length = 0 := by simp; omega
    rw [hz] at this
    have this : lsW s ++ nlW = toB (joinU 32 (R.getD m [])) := this
    have hmem : (10 : UInt8) ∈ joinU 32 (R.getD m []) := by
      have e := congrArg (fun s : ByteArray => s.data.toList) this
      rw [show joinU 32 (R.getD m []) = (toB (joinU 32 (R.getD m []))).data.toList from rfl, ← this]
      simp [nlW]
    have hR : R.getD m [] ∈ R := by
      rw [List.getD_eq_getElem?_getD, List.getElem?_eq_getElem (by omega)]
      exact List.getElem_mem _
    exact okR_line hok _ (List.mem_map.2 ⟨_, hR, rfl⟩) hmem
end Go.Proofs.YtkgbphheppfnaaaDoor

set_option maxRecDepth 100000
set_option linter.unusedSimpArgs false
set_option linter.unusedVariables false
namespace Go.Proofs.YtkgbphheppfnaaaDoor
open Go.Rx
theorem parts_size {s sep p : ByteArray} (h : p ∈ parts s sep) : p.size ≤ s.size := splitB_size _ _ _ _ h
theorem getD_parts (s sep : ByteArray) (i : Nat) : ((parts s sep).getD i .empty).size ≤ s.size := by
  rw [List.getD_eq_getElem?_getD]
  cases hh : (parts s sep)[i]? with
  | none => exact Nat.zero_le _
  | some p => exact parts_size (List.mem_of_getElem? hh)
theorem gd_of_size {s : ByteArray} (h : s.size ≤ 900000) : (decide (s.size < 4294967280) && gdL (lnL s) (lnN s) 0) = true := by
  have hl : (parts s nlW).length = Lib.countB s nlW + 1 := parts_len (by decide)
  have hc := Lib.countB_le nlW (by decide) s.size s (Nat.le_refl _)
  rw [decide_eq_true (show s.size < 4294967280 by omega), Bool.true_and]
  unfold gdL
  rw [Bool.and_eq_true, Bool.and_eq_true, Bool.and_eq_true, decide_eq_true_eq, decide_eq_true_eq, decide_eq_true_eq, List.all_eq_true]
  have hls : (lsW s).size ≤ s.size := getD_parts _ _ _
  unfold lnL lnN
  cases sEq (lsW s) ⟨#[]⟩ with
  | true =>
    simp only [cond_true]
    refine ⟨⟨⟨by omega, by omega⟩, by omega⟩, fun p hp => ?_⟩
    have := parts_size hp
    rw [decide_eq_true_eq]; omega
  | false =>
    simp only [cond_false]
    refine ⟨⟨⟨by omega, by simp; omega⟩, by omega⟩, fun p hp => ?_⟩
    rw [decide_eq_true_eq]
    rcases List.mem_append.1 hp with hp | hp
    · have := parts_size (List.mem_of_mem_take hp); omega
    · rw [List.mem_singleton.1 hp, ByteArray.size_append]
      have : nlW.size = 1 := rfl
      omega
theorem prPs_len : ∀ {ps : List Pot}, ps.all potI = true → (prPs ps).length ≤ 137 * ps.length
  | [], _ => Nat.zero_le _
  | x :: ps, h => by
    simp only [List.all_cons, Bool.and_eq_true] at h
    have h1 := prP_len h.1
    have h2 := prPs_len h.2
    show (prP x ++ prPs ps).length ≤ _
    rw [List.length_append, List.length_cons]; omega
theorem prL_size {c : Cfh} (hc : cfI c = true) {ps : List Pot} (hp : ps.all potI = true) : (bytesOf (prL c ps)).size ≤ 1000 + 137 * ps.length := by
  simp only [cfI, Bool.and_eq_true] at hc
  obtain ⟨⟨⟨⟨⟨⟨⟨i0, i1⟩, i2⟩, i3⟩, i4⟩, i5⟩, i6⟩, i7⟩ := hc
  have l1 := lineW_len [c.dom] (by simp [i1])
  have l2 := lineW_len [c.p1, c.p2] (by simp [i2, i3])
  have l3 := lineW_len [c.q.cl] (by simp [i4])
  have l4 := lineW_len [c.q.ac] (by simp [i5])
  have l5 := lineW_len [c.q.va] (by simp [i6])
  have l6 := lineW_len [c.ppb] (by simp [i7])
  have l7 := prPs_len hp
  have l8 : (prS c).length ≤ 6 := by unfold prS; cases c.sl <;> decide
  simp only [List.length_cons, List.length_nil] at l1 l2 l3 l4 l5 l6
  rw [bytesOf_size]
  unfold prL prH
  simp only [List.length_append, cClock_len, cDomain_len, cPriority_len, cClass_len, cAccuracy_len, cVariance_len, cPpb_len, ckT_len, List.length_cons, List.length_nil]
  omega
theorem inI_iff {n : Int} : inI n = true ↔ -9223372036854775808 ≤ n ∧ n ≤ 9223372036854775807 := by simp [inI]
theorem numU_inj {a b : Int} (ha : inI a = true) (hb : inI b = true) (h : numU a = numU b) : a = b := by
  have ha := inI_iff.1 ha
  have hb := inI_iff.1 hb
  have h1 := atoi_itoa ha.1 ha.2
  have h2 := atoi_itoa hb.1 hb.2
  rw [show Lib.itoa a = Lib.itoa b from h, h2] at h1
  cases h1; rfl
theorem nrow_inj : ∀ {w v : List UInt8} {xs ys : List Int}, xs.all inI = true → ys.all inI = true → nrow w xs = nrow v ys → w = v ∧ xs = ys
  | w, v, [], [], _, _, h => by cases h; exact ⟨rfl, rfl⟩
  | w, v, [], y :: ys, _, _, h => by simp [nrow] at h
  | w, v, x :: xs, [], _, _, h => by simp [nrow] at h
  | w, v, x :: xs, y :: ys, hx, hy, h => by
    simp only [List.all_cons, Bool.and_eq_true] at hx hy
    have h1 : w = v ∧ nrow (numU x) xs = nrow (numU y) ys := by
      have : w :: nrow (numU x) xs = v :: nrow (numU y) ys := h
      simpa using this
    obtain ⟨e1, e2⟩ := nrow_inj hx.2 hy.2 h1.2
    exact ⟨h1.1, by rw [numU_inj hx.1 hy.1 e1, e2]⟩
theorem poU_inj {x y : Pot} (hx : potI x = true) (hy : potI y = true) (h : poU x = poU y) : x = y := by
  have := (nrow_inj (potI_all hx) (potI_all hy) h).2
  obtain ⟨a, b, c, ⟨d, e, f⟩⟩ := x
  obtain ⟨a', b', c', ⟨d', e', f'⟩⟩ := y
  simp only [potW, List.cons.injEq, and_true] at this
  obtain ⟨rfl, rfl, rfl, rfl, rfl, rfl⟩ := this; rfl
theorem pos_inj : ∀ {xs ys : List Pot}, xs.all potI = true → ys.all potI = true → xs.map poU = ys.map poU → xs = ys
  | [], [], _, _, _ => rfl
  | [], y :: ys, _, _, h => by simp at h
  | x :: xs, [], _, _, h => by simp at h
  | x :: xs, y :: ys, hx, hy, h => by
    simp only [List.all_cons, Bool.and_eq_true] at hx hy
    simp only [List.map_cons, List.cons.injEq] at h
    rw [poU_inj hx.1 hy.1 h.1, pos_inj hx.2 hy.2 h.2]
theorem hexU_inj {a b : Ck} (ha : ckB a = true) (hb : ckB b = true) (h : hexU a = hexU b) : a = b := by
  have := (rd_hex ha).2
  rw [h, (rd_hex hb).2] at this
  exact this.symm
theorem join_inj {R S : List (List (List UInt8))} (hR : okR R) (hS : okR S) (h : txR R = txR S) : R = S := by
  have h1 := congrArg (cutU 10) h
  unfold txR at h1
  rw [cut_txt (okR_line hR), cut_txt (okR_line hS)] at h1
  have h2 := (List.append_inj_left' h1 rfl)
  have key : ∀ R : List (List (List UInt8)), okR R → (R.map (joinU 32)).map (cutU 32) = R := by
    intro R hR
    rw [List.map_map]
    conv => rhs; rw [← List.map_id R]
    exact List.map_congr_left fun r hr => cut_join (hR r hr).1 fun w hw => ((hR r hr).2 w hw).1
  rw [← key R hR, ← key S hS, h2]
theorem cfR_inj {a b : Cfh} (ha : cfI a = true) (hb : cfI b = true) {xs ys : List Pot} (hx : xs.all potI = true) (hy : ys.all potI = true) (h : cfR a xs = cfR b ys) : a = b ∧ xs = ys := by
  simp only [cfI, Bool.and_eq_true] at ha hb
  obtain ⟨⟨⟨⟨⟨⟨⟨i0, i1⟩, i2⟩, i3⟩, i4⟩, i5⟩, i6⟩, i7⟩ := ha
  obtain ⟨⟨⟨⟨⟨⟨⟨j0, j1⟩, j2⟩, j3⟩, j4⟩, j5⟩, j6⟩, j7⟩ := hb
  unfold cfR cfH at h
  simp only [List.cons_append, List.nil_append, List.cons.injEq, and_true, true_and] at h
  obtain ⟨h0, h1, h2, h3, h4, h5, h6, h7⟩ := h
  have e0 := hexU_inj i0 j0 h0
  have e1 := (nrow_inj (by simp [i1]) (by simp [j1]) h1).2
  have e2 := (nrow_inj (by simp [i2, i3]) (by simp [j2, j3]) h2).2
  have e3 := (nrow_inj (by simp [i4]) (by simp [j4]) h3).2
  have e4 := (nrow_inj (by simp [i5]) (by simp [j5]) h4).2
  have e5 := (nrow_inj (by simp [i6]) (by simp [j6]) h5).2
  have e6 := (nrow_inj (by simp [i7]) (by simp [j7]) h6).2
  have e7 : a.sl = b.sl ∧ xs.map poU = ys.map poU := by
    unfold cfS7 at h7
    cases hs : a.sl <;> cases ht : b.sl <;> rw [hs, ht] at h7
    · exact ⟨rfl, h7⟩
    · exfalso
      cases xs with
      | nil => simp at h7
      | cons x xs =>
        have := (List.cons.inj h7).1
        have := congrArg (fun r => r.headD []) this
        exact absurd (show prtU = slvU from this) (by decide)
    · exfalso
      cases ys with
      | nil => simp at h7
      | cons y ys =>
        have := (List.cons.inj h7).1
        have := congrArg (fun r => r.headD []) this
        exact absurd (show slvU = prtU from this) (by decide)
    · exact ⟨rfl, (List.cons.inj h7).2⟩
  obtain ⟨a0, a1, a2, a3, ⟨a4, a5, a6⟩, a7, a8⟩ := a
  obtain ⟨b0, b1, b2, b3, ⟨b4, b5, b6⟩, b7, b8⟩ := b
  simp only [List.cons.injEq, and_true] at e0 e1 e2 e3 e4 e5 e6 e7
  obtain ⟨rfl, rfl⟩ := e2
  subst e0 e1 e3 e4 e5 e6
  obtain ⟨rfl, e8⟩ := e7
  exact ⟨rfl, pos_inj hx hy e8⟩
theorem cfI_ck {c : Cfh} (h : cfI c = true) : ckB c.id = true := by
  simp only [cfI, Bool.and_eq_true] at h; exact h.1.1.1.1.1.1.1
theorem prL_inj {a b : Cfh} (ha : cfI a = true) (hb : cfI b = true) {xs ys : List Pot} (hx : xs.all potI = true) (hy : ys.all potI = true) (h : bytesOf (prL a xs) = bytesOf (prL b ys)) : a = b ∧ xs = ys := by
  rw [prL_tx, prL_tx] at h
  exact cfR_inj ha hb hx hy (join_inj (cfR_ok (cfI_ck ha) _) (cfR_ok (cfI_ck hb) _) (toB_inj h))
/-! What is read. -/
theorem tkV_I (L : List ByteArray) (n : Nat) (k : Int) (i : Nat) : inI (tkV L n k i) = true := inI_iff.2 (atoV_lt _)
theorem psC_I {s : ByteArray} (h : psA s = true) : cfI (psC s) = true := by
  have h1 := (ps_back h).1
  simp only [cfI, Bool.and_eq_true]
  exact ⟨⟨⟨⟨⟨⟨⟨h1, tkV_I _ _ _ _⟩, tkV_I _ _ _ _⟩, tkV_I _ _ _ _⟩, tkV_I _ _ _ _⟩, tkV_I _ _ _ _⟩, tkV_I _ _ _ _⟩, tkV_I _ _ _ _⟩
theorem poQ_I (L : List ByteArray) (n : Nat) : ∀ (f : Nat) (k : Int), (poQ L n f k).all potI = true
  | 0, _ => rfl
  | f + 1, k => by
    unfold poQ
    cases pkB L n k with
    | false => rfl
    | true =>
      rw [cond_true, List.all_cons, poQ_I L n f (k + 1), Bool.and_true]
      simp only [potI, pkV, tkV_I, Bool.and_self]
theorem psP_I (s : ByteArray) : (psP s).all potI = true := by
  unfold psP alP
  cases tkB (lnL s) (lnN s) 7 slvW 0 <;> exact poQ_I _ _ _ _
/-- A text that is read is the one that is written. -/
theorem ps_text {s : ByteArray} (h : psA s = true) : bytesOf (prL (psC s) (psP s)) = s := by
  rw [prL_tx]; exact (ps_back h).2.symm
theorem chk_iff {c : Cfh} {n : Nat} {ps : List Pot} (h : chkW c n ps = wNone) : inB c.dom 0 127 = true ∧ inB c.p1 0 255 = true ∧ inB c.p2 0 255 = true ∧ inB c.q.cl 0 255 = true ∧ inB c.q.ac 0 255 = true ∧ inB c.q.va 0 65535 = true ∧ inB c.ppb 0 1000000 = true ∧ inB n 1 8 = true ∧ allP ps = true := by
  unfold chkW at h
  split at h
  · exact absurd h (by decide)
  split at h
  · exact absurd h (by decide)
  split at h
  · exact absurd h (by decide)
  split at h
  · exact absurd h (by decide)
  split at h
  · exact absurd h (by decide)
  split at h
  · exact absurd h (by decide)
  split at h
  · exact absurd h (by decide)
  split at h
  · exact absurd h (by decide)
  rename_i h1 h2 h3 h4 h5 h6 h7
  simp only [Bool.not_eq_true', Bool.not_eq_false, Bool.and_eq_true] at h1 h2 h3 h4 h5 h6 h7
  exact ⟨h1, h2.1, h2.2, h3.1, h4, h5, h6, h7⟩
theorem inB_big {n a b : Int} (h : inB n a b = true) (ha : -1000 ≤ a) (hb : b ≤ 10000000000000) : big n = true := by
  simp only [inB, Bool.and_eq_true, decide_eq_true_eq] at h
  simp only [big, Bool.and_eq_true, decide_eq_true_eq]
  omega
theorem potB_big {x : Pot} (h : potB x = true) : potG x = true := by
  simp only [potB, paB, Bool.and_eq_true, decide_eq_true_eq] at h
  obtain ⟨⟨⟨h1, h2⟩, h3⟩, ⟨⟨⟨h4, h5⟩, h6⟩, h7⟩, h8⟩ := h
  have b1 := inB_big h1 (by decide) (by decide)
  have b2 := inB_big h2 (by decide) (by decide)
  have b3 := inB_big h3 (by decide) (by decide)
  have b4 : big x.pa.mn = true := by simp only [big, Bool.and_eq_true, decide_eq_true_eq]; omega
  have b5 : big x.pa.mx = true := by simp only [big, Bool.and_eq_true, decide_eq_true_eq]; omega
  have b6 : big x.pa.gr = true := by simp only [big, Bool.and_eq_true, decide_eq_true_eq]; omega
  simp [potG, potW, b1, b2, b3, b4, b5, b6]
theorem pgo_all : ∀ {l : List Pot}, pgo l = l.length → l.all potB = true
  | [], _ => rfl
  | x :: xs, h => by
    unfold pgo at h
    split at h
    · rename_i hx
      rw [List.all_cons, hx, pgo_all (by simpa using h)]; rfl
    · simp at h
theorem good_of {c : Cfh} (hc : cfI c = true) {n : Nat} {ps : List Pot} (hn : n = ps.length) (h : chkW c n ps = wNone) : cfgG c = true ∧ ps.all potG = true ∧ ps ≠ [] ∧ ps.length ≤ 8 := by
  obtain ⟨h0, h1, h2, h3, h4, h5, h6, h7, h8⟩ := chk_iff h
  simp only [inB, Bool.and_eq_true, decide_eq_true_eq] at h7
  refine ⟨?_, ?_, ?_, by omega⟩
  · simp only [cfgG, cfI_ck hc, inB_big h0 (by decide) (by decide), inB_big h1 (by decide) (by decide), inB_big h2 (by decide) (by decide), inB_big h3 (by decide) (by decide), inB_big h4 (by decide) (by decide), inB_big h5 (by decide) (by decide), inB_big h6 (by decide) (by decide), Bool.and_self]
  · have := pgo_all (of_decide_eq_true h8)
    rw [List.all_eq_true] at this ⊢
    exact fun x hx => potB_big (this x hx)
  · intro e; rw [e] at hn; simp at hn; omega
theorem tx_rows {R : List (List (List UInt8))} (h : okR R) : RowsL (lnL (toB (txR R))) (lnN (toB (txR R))) R := fun k hk => tx_wd h hk
/-- A configuration with which nothing is amiss is read as it was. -/
theorem ps_good {c : Cfh} (hc : cfI c = true) {n : Nat} {ps : List Pot} (hn : n = ps.length) (h : chkW c n ps = wNone) :
    psA (bytesOf (prL c ps)) = true ∧ psC (bytesOf (prL c ps)) = c ∧ psP (bytesOf (prL c ps)) = ps ∧ psK (bytesOf (prL c ps)) = true := by
  obtain ⟨g1, g2, g3, g4⟩ := good_of hc hn h
  have hok := cfR_ok (cfI_ck hc) ps
  obtain ⟨a, b, d, e⟩ := al_good g1 g2 g3 (tx_rows hok) (tx_N hok)
  unfold psK psA psC psP
  rw [prL_tx, a, b, d, e, decide_eq_true rfl, ← hn, sEq_iff.2 h]
  exact ⟨rfl, rfl, rfl, rfl⟩
/-- One with which something is amiss is not. -/
theorem ps_bad {c : Cfh} (hc : cfI c = true) {n : Nat} {ps : List Pot} (hp : ps.all potI = true) (hn : n = ps.length) (h : chkW c n ps ≠ wNone) (ha : psA (bytesOf (prL c ps)) = true) : psK (bytesOf (prL c ps)) = false := by
  obtain ⟨e1, e2⟩ := prL_inj (psC_I ha) hc (psP_I _) hp (ps_text ha)
  unfold psK
  rw [e1, e2, ← hn]
  exact Bool.eq_false_iff.2 fun e => h (sEq_iff.1 e)
end Go.Proofs.YtkgbphheppfnaaaDoor
