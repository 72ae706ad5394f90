/- Layer 8: the reference: who is over; what is heard. The conditions stand in the specifications. -/
import Derived.Test.YtgdalboilghciaaAlA
import Derived.Test.YtgdalboilghciaaRxD
set_option linter.unusedSimpArgs false
set_option linter.unusedVariables false
set_option linter.unnecessarySimpa false
set_option linter.unusedSectionVars false
set_option maxRecDepth 100000
set_option linter.unusedSimpArgs false
set_option linter.unusedVariables false
namespace Go.Proofs.Ytgdalboilghciaa
open Go.Rx
noncomputable abbrev roN (f : Nat) (vals : List V) (bs : List Blk) : Tree LRes := loopN P (specsOf roG) (loopsOf []) 47 [1, 2, 5, 6] [5] (loopAt Try.f37 0) f vals bs
theorem ro_step {own : Ck} {ev now out i out' i' : Int} {a0 a1 a2 a3 a4 : RefE} {f : Nat} {q : Int} (st : (roRd (roV now out i) (roB own ev [a0, a1, a2, a3, a4])).den = some (roL now out' i')) (hf : (roN f (roV now out' i') (roB own ev [a0, a1, a2, a3, a4])).den = some (roX q)) :
    ∃ f, (roN f (roV now out i) (roB own ev [a0, a1, a2, a3, a4])).den = some (roX q) := by
  refine ⟨f + 1, loopN_step st rfl (vals' := roV now out' i') (bs' := roB own ev [a0, a1, a2, a3, a4]) (by kernel_rfl) (by kernel_rfl) (by kernel_rfl) hf ?_⟩
  (show (seqAfter _ _ _).den = some _; kernel_rfl)
theorem roa_5_n (own : Ck) (ev now : Int) (a0 a1 a2 a3 a4 : RefE) (h0 : okE a0.len a0.ts = true) (h1 : okE a1.len a1.ts = true) (h2 : okE a2.len a2.ts = true) (h3 : okE a3.len a3.ts = true) (h4 : okE a4.len a4.ts = true) : ∃ f, (roN f (roV now (-1) 5) (roB own ev [a0, a1, a2, a3, a4])).den = some (roX (roO ev now [] 5 none)) := by
  exact ⟨1, loopN_end (rox own ev now (-1) a0 a1 a2 a3 a4) (by show Ex.exit 0 ≠ Ex.nrm; decide)⟩
theorem roa_5_0 (own : Ck) (ev now : Int) (a0 a1 a2 a3 a4 : RefE) (h0 : okE a0.len a0.ts = true) (h1 : okE a1.len a1.ts = true) (h2 : okE a2.len a2.ts = true) (h3 : okE a3.len a3.ts = true) (h4 : okE a4.len a4.ts = true) : ∃ f, (roN f (roV now 0 5) (roB own ev [a0, a1, a2, a3, a4])).den = some (roX (roO ev now [] 5 (some (a0, 0)))) := by
  exact ⟨1, loopN_end (rox own ev now 0 a0 a1 a2 a3 a4) (by show Ex.exit 0 ≠ Ex.nrm; decide)⟩
theorem roa_5_1 (own : Ck) (ev now : Int) (a0 a1 a2 a3 a4 : RefE) (h0 : okE a0.len a0.ts = true) (h1 : okE a1.len a1.ts = true) (h2 : okE a2.len a2.ts = true) (h3 : okE a3.len a3.ts = true) (h4 : okE a4.len a4.ts = true) : ∃ f, (roN f (roV now 1 5) (roB own ev [a0, a1, a2, a3, a4])).den = some (roX (roO ev now [] 5 (some (a1, 1)))) := by
  exact ⟨1, loopN_end (rox own ev now 1 a0 a1 a2 a3 a4) (by show Ex.exit 0 ≠ Ex.nrm; decide)⟩
theorem roa_5_2 (own : Ck) (ev now : Int) (a0 a1 a2 a3 a4 : RefE) (h0 : okE a0.len a0.ts = true) (h1 : okE a1.len a1.ts = true) (h2 : okE a2.len a2.ts = true) (h3 : okE a3.len a3.ts = true) (h4 : okE a4.len a4.ts = true) : ∃ f, (roN f (roV now 2 5) (roB own ev [a0, a1, a2, a3, a4])).den = some (roX (roO ev now [] 5 (some (a2, 2)))) := by
  exact ⟨1, loopN_end (rox own ev now 2 a0 a1 a2 a3 a4) (by show Ex.exit 0 ≠ Ex.nrm; decide)⟩
theorem roa_5_3 (own : Ck) (ev now : Int) (a0 a1 a2 a3 a4 : RefE) (h0 : okE a0.len a0.ts = true) (h1 : okE a1.len a1.ts = true) (h2 : okE a2.len a2.ts = true) (h3 : okE a3.len a3.ts = true) (h4 : okE a4.len a4.ts = true) : ∃ f, (roN f (roV now 3 5) (roB own ev [a0, a1, a2, a3, a4])).den = some (roX (roO ev now [] 5 (some (a3, 3)))) := by
  exact ⟨1, loopN_end (rox own ev now 3 a0 a1 a2 a3 a4) (by show Ex.exit 0 ≠ Ex.nrm; decide)⟩
theorem roa_5_4 (own : Ck) (ev now : Int) (a0 a1 a2 a3 a4 : RefE) (h0 : okE a0.len a0.ts = true) (h1 : okE a1.len a1.ts = true) (h2 : okE a2.len a2.ts = true) (h3 : okE a3.len a3.ts = true) (h4 : okE a4.len a4.ts = true) : ∃ f, (roN f (roV now 4 5) (roB own ev [a0, a1, a2, a3, a4])).den = some (roX (roO ev now [] 5 (some (a4, 4)))) := by
  exact ⟨1, loopN_end (rox own ev now 4 a0 a1 a2 a3 a4) (by show Ex.exit 0 ≠ Ex.nrm; decide)⟩
theorem roa_4_n (own : Ck) (ev now : Int) (a0 a1 a2 a3 a4 : RefE) (h0 : okE a0.len a0.ts = true) (h1 : okE a1.len a1.ts = true) (h2 : okE a2.len a2.ts = true) (h3 : okE a3.len a3.ts = true) (h4 : okE a4.len a4.ts = true) : ∃ f, (roN f (roV now (-1) 4) (roB own ev [a0, a1, a2, a3, a4])).den = some (roX (roO ev now [a4] 4 none)) := by
  have st := ror_4 own ev now a0 a1 a2 a3 a4
  unfold roR0 at st
  rw [h4] at st
  rw [roO]
  cases hc : roC ev now a4 with
  | true =>
    rw [hc] at st
    obtain ⟨f, hf⟩ := roa_5_4 own ev now a0 a1 a2 a3 a4 h0 h1 h2 h3 h4
    exact ro_step st hf
  | false =>
    rw [hc] at st
    obtain ⟨f, hf⟩ := roa_5_n own ev now a0 a1 a2 a3 a4 h0 h1 h2 h3 h4
    exact ro_step st hf
theorem roa_4_0 (own : Ck) (ev now : Int) (a0 a1 a2 a3 a4 : RefE) (h0 : okE a0.len a0.ts = true) (h1 : okE a1.len a1.ts = true) (h2 : okE a2.len a2.ts = true) (h3 : okE a3.len a3.ts = true) (h4 : okE a4.len a4.ts = true) : ∃ f, (roN f (roV now 0 4) (roB own ev [a0, a1, a2, a3, a4])).den = some (roX (roO ev now [a4] 4 (some (a0, 0)))) := by
  have st := ror_4_0 own ev now a0 a1 a2 a3 a4
  unfold roR1 at st
  rw [h4, h0] at st
  rw [roO]
  cases hc : roC ev now a4 with
  | true =>
    rw [hc] at st
    cases hd : decide (lastT a4.ts < lastT a0.ts) with
    | true =>
      rw [hd] at st
      obtain ⟨f, hf⟩ := roa_5_4 own ev now a0 a1 a2 a3 a4 h0 h1 h2 h3 h4
      exact ro_step st hf
    | false =>
      rw [hd] at st
      obtain ⟨f, hf⟩ := roa_5_0 own ev now a0 a1 a2 a3 a4 h0 h1 h2 h3 h4
      exact ro_step st hf
  | false =>
    rw [hc] at st
    obtain ⟨f, hf⟩ := roa_5_0 own ev now a0 a1 a2 a3 a4 h0 h1 h2 h3 h4
    exact ro_step st hf
theorem roa_4_1 (own : Ck) (ev now : Int) (a0 a1 a2 a3 a4 : RefE) (h0 : okE a0.len a0.ts = true) (h1 : okE a1.len a1.ts = true) (h2 : okE a2.len a2.ts = true) (h3 : okE a3.len a3.ts = true) (h4 : okE a4.len a4.ts = true) : ∃ f, (roN f (roV now 1 4) (roB own ev [a0, a1, a2, a3, a4])).den = some (roX (roO ev now [a4] 4 (some (a1, 1)))) := by
  have st := ror_4_1 own ev now a0 a1 a2 a3 a4
  unfold roR1 at st
  rw [h4, h1] at st
  rw [roO]
  cases hc : roC ev now a4 with
  | true =>
    rw [hc] at st
    cases hd : decide (lastT a4.ts < lastT a1.ts) with
    | true =>
      rw [hd] at st
      obtain ⟨f, hf⟩ := roa_5_4 own ev now a0 a1 a2 a3 a4 h0 h1 h2 h3 h4
      exact ro_step st hf
    | false =>
      rw [hd] at st
      obtain ⟨f, hf⟩ := roa_5_1 own ev now a0 a1 a2 a3 a4 h0 h1 h2 h3 h4
      exact ro_step st hf
  | false =>
    rw [hc] at st
    obtain ⟨f, hf⟩ := roa_5_1 own ev now a0 a1 a2 a3 a4 h0 h1 h2 h3 h4
    exact ro_step st hf
theorem roa_4_2 (own : Ck) (ev now : Int) (a0 a1 a2 a3 a4 : RefE) (h0 : okE a0.len a0.ts = true) (h1 : okE a1.len a1.ts = true) (h2 : okE a2.len a2.ts = true) (h3 : okE a3.len a3.ts = true) (h4 : okE a4.len a4.ts = true) : ∃ f, (roN f (roV now 2 4) (roB own ev [a0, a1, a2, a3, a4])).den = some (roX (roO ev now [a4] 4 (some (a2, 2)))) := by
  have st := ror_4_2 own ev now a0 a1 a2 a3 a4
  unfold roR1 at st
  rw [h4, h2] at st
  rw [roO]
  cases hc : roC ev now a4 with
  | true =>
    rw [hc] at st
    cases hd : decide (lastT a4.ts < lastT a2.ts) with
    | true =>
      rw [hd] at st
      obtain ⟨f, hf⟩ := roa_5_4 own ev now a0 a1 a2 a3 a4 h0 h1 h2 h3 h4
      exact ro_step st hf
    | false =>
      rw [hd] at st
      obtain ⟨f, hf⟩ := roa_5_2 own ev now a0 a1 a2 a3 a4 h0 h1 h2 h3 h4
      exact ro_step st hf
  | false =>
    rw [hc] at st
    obtain ⟨f, hf⟩ := roa_5_2 own ev now a0 a1 a2 a3 a4 h0 h1 h2 h3 h4
    exact ro_step st hf
theorem roa_4_3 (own : Ck) (ev now : Int) (a0 a1 a2 a3 a4 : RefE) (h0 : okE a0.len a0.ts = true) (h1 : okE a1.len a1.ts = true) (h2 : okE a2.len a2.ts = true) (h3 : okE a3.len a3.ts = true) (h4 : okE a4.len a4.ts = true) : ∃ f, (roN f (roV now 3 4) (roB own ev [a0, a1, a2, a3, a4])).den = some (roX (roO ev now [a4] 4 (some (a3, 3)))) := by
  have st := ror_4_3 own ev now a0 a1 a2 a3 a4
  unfold roR1 at st
  rw [h4, h3] at st
  rw [roO]
  cases hc : roC ev now a4 with
  | true =>
    rw [hc] at st
    cases hd : decide (lastT a4.ts < lastT a3.ts) with
    | true =>
      rw [hd] at st
      obtain ⟨f, hf⟩ := roa_5_4 own ev now a0 a1 a2 a3 a4 h0 h1 h2 h3 h4
      exact ro_step st hf
    | false =>
      rw [hd] at st
      obtain ⟨f, hf⟩ := roa_5_3 own ev now a0 a1 a2 a3 a4 h0 h1 h2 h3 h4
      exact ro_step st hf
  | false =>
    rw [hc] at st
    obtain ⟨f, hf⟩ := roa_5_3 own ev now a0 a1 a2 a3 a4 h0 h1 h2 h3 h4
    exact ro_step st hf
theorem roa_3_n (own : Ck) (ev now : Int) (a0 a1 a2 a3 a4 : RefE) (h0 : okE a0.len a0.ts = true) (h1 : okE a1.len a1.ts = true) (h2 : okE a2.len a2.ts = true) (h3 : okE a3.len a3.ts = true) (h4 : okE a4.len a4.ts = true) : ∃ f, (roN f (roV now (-1) 3) (roB own ev [a0, a1, a2, a3, a4])).den = some (roX (roO ev now [a3, a4] 3 none)) := by
  have st := ror_3 own ev now a0 a1 a2 a3 a4
  unfold roR0 at st
  rw [h3] at st
  rw [roO]
  cases hc : roC ev now a3 with
  | true =>
    rw [hc] at st
    obtain ⟨f, hf⟩ := roa_4_3 own ev now a0 a1 a2 a3 a4 h0 h1 h2 h3 h4
    exact ro_step st hf
  | false =>
    rw [hc] at st
    obtain ⟨f, hf⟩ := roa_4_n own ev now a0 a1 a2 a3 a4 h0 h1 h2 h3 h4
    exact ro_step st hf
theorem roa_3_0 (own : Ck) (ev now : Int) (a0 a1 a2 a3 a4 : RefE) (h0 : okE a0.len a0.ts = true) (h1 : okE a1.len a1.ts = true) (h2 : okE a2.len a2.ts = true) (h3 : okE a3.len a3.ts = true) (h4 : okE a4.len a4.ts = true) : ∃ f, (roN f (roV now 0 3) (roB own ev [a0, a1, a2, a3, a4])).den = some (roX (roO ev now [a3, a4] 3 (some (a0, 0)))) := by
  have st := ror_3_0 own ev now a0 a1 a2 a3 a4
  unfold roR1 at st
  rw [h3, h0] at st
  rw [roO]
  cases hc : roC ev now a3 with
  | true =>
    rw [hc] at st
    cases hd : decide (lastT a3.ts < lastT a0.ts) with
    | true =>
      rw [hd] at st
      obtain ⟨f, hf⟩ := roa_4_3 own ev now a0 a1 a2 a3 a4 h0 h1 h2 h3 h4
      exact ro_step st hf
    | false =>
      rw [hd] at st
      obtain ⟨f, hf⟩ := roa_4_0 own ev now a0 a1 a2 a3 a4 h0 h1 h2 h3 h4
      exact ro_step st hf
  | false =>
    rw [hc] at st
    obtain ⟨f, hf⟩ := roa_4_0 own ev now a0 a1 a2 a3 a4 h0 h1 h2 h3 h4
    exact ro_step st hf
theorem roa_3_1 (own : Ck) (ev now : Int) (a0 a1 a2 a3 a4 : RefE) (h0 : okE a0.len a0.ts = true) (h1 : okE a1.len a1.ts = true) (h2 : okE a2.len a2.ts = true) (h3 : okE a3.len a3.ts = true) (h4 : okE a4.len a4.ts = true) : ∃ f, (roN f (roV now 1 3) (roB own ev [a0, a1, a2, a3, a4])).den = some (roX (roO ev now [a3, a4] 3 (some (a1, 1)))) := by
  have st := ror_3_1 own ev now a0 a1 a2 a3 a4
  unfold roR1 at st
  rw [h3, h1] at st
  rw [roO]
  cases hc : roC ev now a3 with
  | true =>
    rw [hc] at st
    cases hd : decide (lastT a3.ts < lastT a1.ts) with
    | true =>
      rw [hd] at st
      obtain ⟨f, hf⟩ := roa_4_3 own ev now a0 a1 a2 a3 a4 h0 h1 h2 h3 h4
      exact ro_step st hf
    | false =>
      rw [hd] at st
      obtain ⟨f, hf⟩ := roa_4_1 own ev now a0 a1 a2 a3 a4 h0 h1 h2 h3 h4
      exact ro_step st hf
  | false =>
    rw [hc] at st
    obtain ⟨f, hf⟩ := roa_4_1 own ev now a0 a1 a2 a3 a4 h0 h1 h2 h3 h4
    exact ro_step st hf
theorem roa_3_2 (own : Ck) (ev now : Int) (a0 a1 a2 a3 a4 : RefE) (h0 : okE a0.len a0.ts = true) (h1 : okE a1.len a1.ts = true) (h2 : okE a2.len a2.ts = true) (h3 : okE a3.len a3.ts = true) (h4 : okE a4.len a4.ts = true) : ∃ f, (roN f (roV now 2 3) (roB own ev [a0, a1, a2, a3, a4])).den = some (roX (roO ev now [a3, a4] 3 (some (a2, 2)))) := by
  have st := ror_3_2 own ev now a0 a1 a2 a3 a4
  unfold roR1 at st
  rw [h3, h2] at st
  rw [roO]
  cases hc : roC ev now a3 with
  | true =>
    rw [hc] at st
    cases hd : decide (lastT a3.ts < lastT a2.ts) with
    | true =>
      rw [hd] at st
      obtain ⟨f, hf⟩ := roa_4_3 own ev now a0 a1 a2 a3 a4 h0 h1 h2 h3 h4
      exact ro_step st hf
    | false =>
      rw [hd] at st
      obtain ⟨f, hf⟩ := roa_4_2 own ev now a0 a1 a2 a3 a4 h0 h1 h2 h3 h4
      exact ro_step st hf
  | false =>
    rw [hc] at st
    obtain ⟨f, hf⟩ := roa_4_2 own ev now a0 a1 a2 a3 a4 h0 h1 h2 h3 h4
    exact ro_step st hf
theorem roa_2_n (own : Ck) (ev now : Int) (a0 a1 a2 a3 a4 : RefE) (h0 : okE a0.len a0.ts = true) (h1 : okE a1.len a1.ts = true) (h2 : okE a2.len a2.ts = true) (h3 : okE a3.len a3.ts = true) (h4 : okE a4.len a4.ts = true) : ∃ f, (roN f (roV now (-1) 2) (roB own ev [a0, a1, a2, a3, a4])).den = some (roX (roO ev now [a2, a3, a4] 2 none)) := by
  have st := ror_2 own ev now a0 a1 a2 a3 a4
  unfold roR0 at st
  rw [h2] at st
  rw [roO]
  cases hc : roC ev now a2 with
  | true =>
    rw [hc] at st
    obtain ⟨f, hf⟩ := roa_3_2 own ev now a0 a1 a2 a3 a4 h0 h1 h2 h3 h4
    exact ro_step st hf
  | false =>
    rw [hc] at st
    obtain ⟨f, hf⟩ := roa_3_n own ev now a0 a1 a2 a3 a4 h0 h1 h2 h3 h4
    exact ro_step st hf
theorem roa_2_0 (own : Ck) (ev now : Int) (a0 a1 a2 a3 a4 : RefE) (h0 : okE a0.len a0.ts = true) (h1 : okE a1.len a1.ts = true) (h2 : okE a2.len a2.ts = true) (h3 : okE a3.len a3.ts = true) (h4 : okE a4.len a4.ts = true) : ∃ f, (roN f (roV now 0 2) (roB own ev [a0, a1, a2, a3, a4])).den = some (roX (roO ev now [a2, a3, a4] 2 (some (a0, 0)))) := by
  have st := ror_2_0 own ev now a0 a1 a2 a3 a4
  unfold roR1 at st
  rw [h2, h0] at st
  rw [roO]
  cases hc : roC ev now a2 with
  | true =>
    rw [hc] at st
    cases hd : decide (lastT a2.ts < lastT a0.ts) with
    | true =>
      rw [hd] at st
      obtain ⟨f, hf⟩ := roa_3_2 own ev now a0 a1 a2 a3 a4 h0 h1 h2 h3 h4
      exact ro_step st hf
    | false =>
      rw [hd] at st
      obtain ⟨f, hf⟩ := roa_3_0 own ev now a0 a1 a2 a3 a4 h0 h1 h2 h3 h4
      exact ro_step st hf
  | false =>
    rw [hc] at st
    obtain ⟨f, hf⟩ := roa_3_0 own ev now a0 a1 a2 a3 a4 h0 h1 h2 h3 h4
    exact ro_step st hf
theorem roa_2_1 (own : Ck) (ev now : Int) (a0 a1 a2 a3 a4 : RefE) (h0 : okE a0.len a0.ts = true) (h1 : okE a1.len a1.ts = true) (h2 : okE a2.len a2.ts = true) (h3 : okE a3.len a3.ts = true) (h4 : okE a4.len a4.ts = true) : ∃ f, (roN f (roV now 1 2) (roB own ev [a0, a1, a2, a3, a4])).den = some (roX (roO ev now [a2, a3, a4] 2 (some (a1, 1)))) := by
  have st := ror_2_1 own ev now a0 a1 a2 a3 a4
  unfold roR1 at st
  rw [h2, h1] at st
  rw [roO]
  cases hc : roC ev now a2 with
  | true =>
    rw [hc] at st
    cases hd : decide (lastT a2.ts < lastT a1.ts) with
    | true =>
      rw [hd] at st
      obtain ⟨f, hf⟩ := roa_3_2 own ev now a0 a1 a2 a3 a4 h0 h1 h2 h3 h4
      exact ro_step st hf
    | false =>
      rw [hd] at st
      obtain ⟨f, hf⟩ := roa_3_1 own ev now a0 a1 a2 a3 a4 h0 h1 h2 h3 h4
      exact ro_step st hf
  | false =>
    rw [hc] at st
    obtain ⟨f, hf⟩ := roa_3_1 own ev now a0 a1 a2 a3 a4 h0 h1 h2 h3 h4
    exact ro_step st hf
theorem roa_1_n (own : Ck) (ev now : Int) (a0 a1 a2 a3 a4 : RefE) (h0 : okE a0.len a0.ts = true) (h1 : okE a1.len a1.ts = true) (h2 : okE a2.len a2.ts = true) (h3 : okE a3.len a3.ts = true) (h4 : okE a4.len a4.ts = true) : ∃ f, (roN f (roV now (-1) 1) (roB own ev [a0, a1, a2, a3, a4])).den = some (roX (roO ev now [a1, a2, a3, a4] 1 none)) := by
  have st := ror_1 own ev now a0 a1 a2 a3 a4
  unfold roR0 at st
  rw [h1] at st
  rw [roO]
  cases hc : roC ev now a1 with
  | true =>
    rw [hc] at st
    obtain ⟨f, hf⟩ := roa_2_1 own ev now a0 a1 a2 a3 a4 h0 h1 h2 h3 h4
    exact ro_step st hf
  | false =>
    rw [hc] at st
    obtain ⟨f, hf⟩ := roa_2_n own ev now a0 a1 a2 a3 a4 h0 h1 h2 h3 h4
    exact ro_step st hf
theorem roa_1_0 (own : Ck) (ev now : Int) (a0 a1 a2 a3 a4 : RefE) (h0 : okE a0.len a0.ts = true) (h1 : okE a1.len a1.ts = true) (h2 : okE a2.len a2.ts = true) (h3 : okE a3.len a3.ts = true) (h4 : okE a4.len a4.ts = true) : ∃ f, (roN f (roV now 0 1) (roB own ev [a0, a1, a2, a3, a4])).den = some (roX (roO ev now [a1, a2, a3, a4] 1 (some (a0, 0)))) := by
  have st := ror_1_0 own ev now a0 a1 a2 a3 a4
  unfold roR1 at st
  rw [h1, h0] at st
  rw [roO]
  cases hc : roC ev now a1 with
  | true =>
    rw [hc] at st
    cases hd : decide (lastT a1.ts < lastT a0.ts) with
    | true =>
      rw [hd] at st
      obtain ⟨f, hf⟩ := roa_2_1 own ev now a0 a1 a2 a3 a4 h0 h1 h2 h3 h4
      exact ro_step st hf
    | false =>
      rw [hd] at st
      obtain ⟨f, hf⟩ := roa_2_0 own ev now a0 a1 a2 a3 a4 h0 h1 h2 h3 h4
      exact ro_step st hf
  | false =>
    rw [hc] at st
    obtain ⟨f, hf⟩ := roa_2_0 own ev now a0 a1 a2 a3 a4 h0 h1 h2 h3 h4
    exact ro_step st hf
theorem roa_0_n (own : Ck) (ev now : Int) (a0 a1 a2 a3 a4 : RefE) (h0 : okE a0.len a0.ts = true) (h1 : okE a1.len a1.ts = true) (h2 : okE a2.len a2.ts = true) (h3 : okE a3.len a3.ts = true) (h4 : okE a4.len a4.ts = true) : ∃ f, (roN f (roV now (-1) 0) (roB own ev [a0, a1, a2, a3, a4])).den = some (roX (roO ev now [a0, a1, a2, a3, a4] 0 none)) := by
  have st := ror_0 own ev now a0 a1 a2 a3 a4
  unfold roR0 at st
  rw [h0] at st
  rw [roO]
  cases hc : roC ev now a0 with
  | true =>
    rw [hc] at st
    obtain ⟨f, hf⟩ := roa_1_0 own ev now a0 a1 a2 a3 a4 h0 h1 h2 h3 h4
    exact ro_step st hf
  | false =>
    rw [hc] at st
    obtain ⟨f, hf⟩ := roa_1_n own ev now a0 a1 a2 a3 a4 h0 h1 h2 h3 h4
    exact ro_step st hf
noncomputable def roLf (A : List V) (B : List Blk) (q : Int) (vals : List V) (bs : List Blk) : Tree LRes := .need (eqAB vals A bs B) (.leaf (roX q))
noncomputable abbrev roLs (A : List V) (B : List Blk) (q : Int) : LSpec := ⟨47, [1, 2, 5, 6], [5], roLf A B q⟩
theorem ro_loop (own : Ck) (ev now : Int) (a0 a1 a2 a3 a4 : RefE) (h0 : okE a0.len a0.ts = true) (h1 : okE a1.len a1.ts = true) (h2 : okE a2.len a2.ts = true) (h3 : okE a3.len a3.ts = true) (h4 : okE a4.len a4.ts = true) : LoopOK P (loopAt Try.f37 0) (roLs (roV now (-1) 0) (roB own ev [a0, a1, a2, a3, a4]) (roO ev now [a0, a1, a2, a3, a4] 0 none)) := by
  refine loop_ok roG_ok hm (Λ := loopsOf []) (LoopsOK.nil (by kernel_rfl)) _ ?_
  intro vals bs r h
  change (roLf _ _ _ vals bs).den = some r at h
  unfold roLf at h
  rw [den_need, denLf] at h
  obtain ⟨he, h⟩ := h
  have he : vals = roV now (-1) 0 ∧ bs = roB own ev [a0, a1, a2, a3, a4] := by
    unfold eqAB at he
    exact @of_decide_eq_true _ (Classical.propDecidable _) he
  obtain ⟨rfl, rfl⟩ := he
  cases h
  exact roa_0_n own ev now a0 a1 a2 a3 a4 h0 h1 h2 h3 h4
noncomputable abbrev roF (own : Ck) (ev now : Int) (es : RTab) (a : List V) (b : List Blk) : Tree Res := fFn P (specsOf roG) (loopsOf [(3, roLs (roV now (-1) 0) (roB own ev es) (roO ev now es 0 none))]) Try.f37 a b
theorem ro_nf (own : Ck) (ev now : Int) (a0 a1 a2 a3 a4 : RefE) (q : Int) : Tree.denN (fFn P (specsOf roG) (loopsOf [(3, roLs (roV now (-1) 0) (roB own ev [a0, a1, a2, a3, a4]) q)]) Try.f37 [refV own ev [a0, a1, a2, a3, a4], .int .i64 now] (refB [a0, a1, a2, a3, a4])) = Tree.denN (.ite (eqAB (roV now (-1) 0) (roV now (-1) 0) (roB own ev [a0, a1, a2, a3, a4]) (roB own ev [a0, a1, a2, a3, a4])) (.leaf ⟨.int .i64 q, noneL (refB [a0, a1, a2, a3, a4]), []⟩) .fail) := by
  kernel_rfl
/-- Who is over longest: the reference's answer. -/
theorem ro_ans (own : Ck) (ev now : Int) (a0 a1 a2 a3 a4 : RefE) (h0 : okE a0.len a0.ts = true) (h1 : okE a1.len a1.ts = true) (h2 : okE a2.len a2.ts = true) (h3 : okE a3.len a3.ts = true) (h4 : okE a4.len a4.ts = true) : ∃ s, SpecOK P 37 s ∧ (s [refV own ev [a0, a1, a2, a3, a4], .int .i64 now] (refB [a0, a1, a2, a3, a4])).denN = some (Res.nrm ⟨.int .i64 (roO ev now [a0, a1, a2, a3, a4] 0 none), noneL (refB [a0, a1, a2, a3, a4]), []⟩) := by
  refine ⟨roF own ev now [a0, a1, a2, a3, a4], inl_ok roG_ok hm Try.func37 (by kernel_rfl) (LoopsOK.one (by kernel_rfl) (ro_loop own ev now a0 a1 a2 a3 a4 h0 h1 h2 h3 h4)), ?_⟩
  refine (ro_nf own ev now a0 a1 a2 a3 a4 _).trans ?_
  rw [eqAB_self]
  rfl
end Go.Proofs.Ytgdalboilghciaa

set_option maxRecDepth 100000
set_option linter.unusedSimpArgs false
set_option linter.unusedVariables false
namespace Go.Proofs.Ytgdalboilghciaa
open Go.Rx
/-- What is reckoned of a sender that is heard again. -/
def reY (a : RefE) : List Int := List.take a.len (List.drop 0 a.ts)
def reZ (now : Int) (a : RefE) : List Int := List.take (reY a).length (List.drop 0 (reY a)) ++ [now]
def reE (s : Ste) (now : Int) (a : RefE) : RefE := ⟨s, reZ now a, (reZ now a).length, none⟩
def nwE (s : Ste) (now : Int) : RefE := ⟨s, [now], 1, some 1⟩
def rhL (es : RTab) (k : Option Nat) (j : Nat) (e : RefE) : List (RefE × Nat) := (match k with | none => idsF 1 es | some k => (idsF 1 es).eraseIdx k).insertIdx j (e, (refB es).length + 1)
def rhR (own : Ck) (ev : Int) (es : RTab) (k : Option Nat) (j : Nat) (e : RefE) (t : Int) : Res := ⟨.tup [.agg (own.vs ++ [.int .i64 ev, outL (refB es).length (rhL es k j e)]), .int .i64 t], noneL (refB es), outB (rhL es k j e) ++ [.ints .i64 e.ts]⟩
def rhN (own : Ck) (ev : Int) (es : RTab) (t : Int) : Res := ⟨.tup [refV own ev es, .int .i64 t], noneL (refB es), []⟩
def rhBad (own : Ck) (s : Ste) (now : Int) (I T : Tree Res) : Tree Res := .ite (decide (now < 0)) I (.ite (decide (now > 4611686018427387904)) I (.ite (s.snd.c.eqB own) I (.ite (decide (s.st < 0)) I (.ite (decide (s.st > 254)) I T))))
noncomputable abbrev rhF (G : List (Nat × Rx.Spec)) (a : List V) (b : List Blk) : Tree Res := fFn P (specsOf G) (loopsOf []) Try.f27 a b
noncomputable abbrev rhFi (own : Ck) (ev : Int) (es : RTab) (s : Ste) (k : Int) : Nat × Rx.Spec := (28, orS [refV own ev es, s.snd.v] (refB es) ⟨.int .i64 k, noneL (refB es), []⟩)
noncomputable abbrev rhWo (own : Ck) (ev : Int) (es : RTab) (k : Nat) : Nat × Rx.Spec := (29, orS [refV own ev es, .int .i64 (k : Int)] (refB es) (woR own ev es k))
noncomputable abbrev rhWt (own : Ck) (ev : Int) (es : RTab) (e : RefE) (j : Nat) : Nat × Rx.Spec := (36, orS (wtA own ev es e) (wtB es e) (wtR own ev es e j))
noncomputable abbrev rhOv (own : Ck) (ev now : Int) (es : RTab) (o : Int) : Nat × Rx.Spec := (37, orS [refV own ev es, .int .i64 now] (refB es) ⟨.int .i64 o, noneL (refB es), []⟩)
noncomputable def q (a : List V) (b : List Blk) (T : Tree Res) : Tree Res := .ite (eqAB a a b b) T .fail
noncomputable def rhT0 (own : Ck) (ev now : Int) (es : RTab) (s : Ste) (T : Tree Res) : Tree Res := q [refV own ev es, s.snd.v] (refB es) (rhBad own s now (.leaf (rhN own ev es 0)) T)
noncomputable def rhT1 (own : Ck) (ev now : Int) (es : RTab) (s : Ste) (k j : Nat) (a : RefE) (es' : RTab) : Tree Res :=
  rhT0 own ev now es s (.need (okE a.len a.ts) (.ite (decide (lastT a.ts > now)) (.leaf (rhN own ev es 0)) (.need (decide (0 + a.len ≤ a.ts.length)) (.need (decide ((reY a).length * 8 ≤ 140737488355328)) (.need (decide (0 + (reY a).length ≤ (reY a).length) && true) (.need (decide ((reZ now a).length * 8 ≤ 140737488355328))
    (q [refV own ev es, .int .i64 (k : Int)] (refB es) (q (wtA own ev es' (reE s now a)) (wtB es' (reE s now a)) (.leaf (rhR own ev es (some k) j (reE s now a) 1))))))))))
theorem rh1_2_1_0 (own : Ck) (ev now : Int) (s : Ste) (a0 a1 : RefE) : Tree.denN (rhF [rhFi own ev [a0, a1] s 1, (30, rlS), rhWo own ev [a0, a1] 1, rhWt own ev [a0] (reE s now a1) 0] [refV own ev [a0, a1], s.v, .int .i64 now] (refB [a0, a1])) = Tree.denN (rhT1 own ev now [a0, a1] s 1 0 a1 [a0]) := by
  kernel_rfl
noncomputable def rhT2 (own : Ck) (ev now : Int) (es : RTab) (s : Ste) (j : Nat) : Tree Res := rhT0 own ev now es s (q (wtA own ev es (nwE s now)) (wtB es (nwE s now)) (.leaf (rhR own ev es none j (nwE s now) 2)))
noncomputable def rhT3 (own : Ck) (ev now : Int) (es : RTab) (s : Ste) (o j : Nat) (es' : RTab) : Tree Res := rhT0 own ev now es s (q [refV own ev es, .int .i64 now] (refB es) (q [refV own ev es, .int .i64 (o : Int)] (refB es) (q (wtA own ev es' (nwE s now)) (wtB es' (nwE s now)) (.leaf (rhR own ev es (some o) j (nwE s now) 3)))))
noncomputable def rhT4 (own : Ck) (ev now : Int) (es : RTab) (s : Ste) : Tree Res := rhT0 own ev now es s (q [refV own ev es, .int .i64 now] (refB es) (.leaf (rhN own ev es 4)))
end Go.Proofs.Ytgdalboilghciaa
